/-
  DERIVED. GIVEN WITH THE SEED: THE CARDS: each row of YtpgmoinalongnaaGreatDoorRows.lean that lists a variable, with what it lists TIED to the program's text (the seventh form; the later family's looks); each row that meets fmt, with fmt's text TOLD by the authors' own Lean function (tested against real Go, not proved from fmt's source: count such statements apart). THE CARD IS WHAT COUNTS. Prove the row's statement (the work); the ties are given (YtpgmoinalongnaaGreatDoorTie.lean); close each card by the builder's one call (the guide's Derived/Test/ToyasCard.lean, 'card_holds'). Laid BY PROGRAM, IN A SANDBOX (cutbox-door.mjs). By AI agents, Wed Nov 11 2026. No macro, syntax, notation, axiom, sorry.
-/
import Derived.Test.YtpgmoinalongnaaGreatDoorRows
import GoSem.ClaimSeven
namespace Go.Proofs.YtpgmoinalongnaaGreatDoor
namespace Rows

/-- THE TIED CARD OF 'ancepslaw39.UnknownForced'. -/
def unknownForcedCard : Claim7 := { stood := { row := unknownForcedRow, standIns := [], harness := (true, "bdf1cede421d2970022c8ac2f5a200b3834d663819c950c72ba85e610d4a3624"), looks := false }, kinds := [], alts := [], laidByText := true, laidKinds := [.data, .data, .data], laidTests := true, laidLooks := .later }
def UnknownForcedCardSaid : Prop := Claim7.holds Tryz.pinned (.plain (OpenSpec.ofChange unknownForcedSpec)) unknownForcedCard

/-- THE TIED CARD OF 'ancepslaw39.UnknownAssigns'. -/
def unknownAssignsCard : Claim7 := { stood := { row := unknownAssignsRow, standIns := [], harness := (true, "bdf1cede421d2970022c8ac2f5a200b3834d663819c950c72ba85e610d4a3624"), looks := false }, kinds := [], alts := [], laidByText := true, laidKinds := [.data, .data, .data], laidTests := true, laidLooks := .later }
def UnknownAssignsCardSaid : Prop := Claim7.holds Tryz.pinned (.plain (OpenSpec.ofChange unknownAssignsSpec)) unknownAssignsCard

/-- THE SECOND FORM's CARD OF 'ancepslaw39.UnknownForced'. -/
def unknownForcedUptoCard : Claim7 := { stood := { row := unknownForcedUptoRow, standIns := [], harness := (true, "bdf1cede421d2970022c8ac2f5a200b3834d663819c950c72ba85e610d4a3624"), looks := false }, kinds := [], alts := [], laidByText := true, laidKinds := [.data, .data, .data], laidTests := true, laidLooks := .later }
def UnknownForcedUptoCardSaid : Prop := Claim7.holds Tryz.pinned (.plain (OpenSpec.upto unknownForcedSpec)) unknownForcedUptoCard

/-- THE SECOND FORM's CARD OF 'ancepslaw39.UnknownAssigns'. -/
def unknownAssignsUptoCard : Claim7 := { stood := { row := unknownAssignsUptoRow, standIns := [], harness := (true, "bdf1cede421d2970022c8ac2f5a200b3834d663819c950c72ba85e610d4a3624"), looks := false }, kinds := [], alts := [], laidByText := true, laidKinds := [.data, .data, .data], laidTests := true, laidLooks := .later }
def UnknownAssignsUptoCardSaid : Prop := Claim7.holds Tryz.pinned (.plain (OpenSpec.upto unknownAssignsSpec)) unknownAssignsUptoCard
end Rows
end Go.Proofs.YtpgmoinalongnaaGreatDoor
