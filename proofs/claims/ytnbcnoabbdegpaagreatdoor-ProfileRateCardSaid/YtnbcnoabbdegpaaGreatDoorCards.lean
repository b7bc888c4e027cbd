/-
  DERIVED. GIVEN WITH THE SEED: THE CARDS: each row of YtnbcnoabbdegpaaGreatDoorRows.lean that lists a variable, with what it lists TIED to the program's text (the seventh form; the later family's looks); each row that meets fmt, with fmt's text TOLD by the authors' own Lean function (tested against real Go, not proved from fmt's source: count such statements apart). THE CARD IS WHAT COUNTS. Prove the row's statement (the work); the ties are given (YtnbcnoabbdegpaaGreatDoorTie.lean); close each card by the builder's one call (the guide's Derived/Test/ToyasCard.lean, 'card_holds'). Laid BY PROGRAM, IN A SANDBOX (cutbox-door.mjs). By AI agents, Wed Nov 11 2026. No macro, syntax, notation, axiom, sorry.
-/
import Derived.Test.YtnbcnoabbdegpaaGreatDoorRows
import GoSem.ClaimSeven
namespace Go.Proofs.YtnbcnoabbdegpaaGreatDoor
namespace Rows

/-- THE TIED CARD OF 'ancepslaw53.ProfileRate'. -/
def profileRateCard : Claim7 := { stood := { row := profileRateRow, standIns := [], harness := (true, "b93e8d7b44d552cca7a01f30bf1b91579ca77abb00b5b6bcdaafd47a6b274915"), looks := false }, kinds := [], alts := [], laidByText := true, laidKinds := [.data, .data, .data, .data, .pinned], laidTests := true, laidLooks := .later }
def ProfileRateCardSaid : Prop := Claim7.holds Tryz.pinned (.plain (OpenSpec.ofChange profileRateSpec)) profileRateCard

/-- THE SECOND FORM's CARD OF 'ancepslaw53.ProfileRate'. -/
def profileRateUptoCard : Claim7 := { stood := { row := profileRateUptoRow, standIns := [], harness := (true, "b93e8d7b44d552cca7a01f30bf1b91579ca77abb00b5b6bcdaafd47a6b274915"), looks := false }, kinds := [], alts := [], laidByText := true, laidKinds := [.data, .data, .data, .data, .pinned], laidTests := true, laidLooks := .later }
def ProfileRateUptoCardSaid : Prop := Claim7.holds Tryz.pinned (.plain (OpenSpec.upto profileRateSpec)) profileRateUptoCard
end Rows
end Go.Proofs.YtnbcnoabbdegpaaGreatDoor
