/-
  DERIVED. GIVEN WITH THE SEED: THE CARDS: each row of YtolenfcngomdfaaGreatDoorRows.lean that lists a variable, with what it lists TIED to the program's text (the seventh form; the later family's looks); each row that meets fmt, with fmt's text TOLD by the authors' own Lean function (tested against real Go, not proved from fmt's source: count such statements apart). THE CARD IS WHAT COUNTS. Prove the row's statement (the work); the ties are given (YtolenfcngomdfaaGreatDoorTie.lean); close each card by the builder's one call (the guide's Derived/Test/ToyasCard.lean, 'card_holds'). Laid BY PROGRAM, IN A SANDBOX (cutbox-door.mjs). By AI agents, Wed Nov 11 2026. No macro, syntax, notation, axiom, sorry.
-/
import Derived.Test.YtolenfcngomdfaaGreatDoorRows
import GoSem.ClaimSeven
namespace Go.Proofs.YtolenfcngomdfaaGreatDoor
namespace Rows

/-- THE TIED CARD OF 'ancepslaw53.ProfileMerge'. -/
def profileMergeCard : Claim7 := { stood := { row := profileMergeRow, standIns := [], harness := (true, "2c555e4585c7a13ce19aad31a19447f586ca491de94703b23755b72ae27b5014"), looks := false }, kinds := [], alts := [], laidByText := true, laidKinds := [.data, .data, .data, .data, .pinned], laidTests := true, laidLooks := .later }
def ProfileMergeCardSaid : Prop := Claim7.holds Tryz.pinned (.plain (OpenSpec.ofChange profileMergeSpec)) profileMergeCard

/-- THE SECOND FORM's CARD OF 'ancepslaw53.ProfileMerge'. -/
def profileMergeUptoCard : Claim7 := { stood := { row := profileMergeUptoRow, standIns := [], harness := (true, "2c555e4585c7a13ce19aad31a19447f586ca491de94703b23755b72ae27b5014"), looks := false }, kinds := [], alts := [], laidByText := true, laidKinds := [.data, .data, .data, .data, .pinned], laidTests := true, laidLooks := .later }
def ProfileMergeUptoCardSaid : Prop := Claim7.holds Tryz.pinned (.plain (OpenSpec.upto profileMergeSpec)) profileMergeUptoCard
end Rows
end Go.Proofs.YtolenfcngomdfaaGreatDoor
