/- A part of the proof of the tied card of UnknownForced (chapter 39): the law returns true whatever the input. -/
import Derived.Test.YtpgmoinalongnaaGreatDoorA
import Derived.JoinedOf
import Derived.SevenTiedAt
import Derived.KernelRfl
import Derived.Test.YtpgmoinalongnaaGreatDoorF1
import Derived.Test.YtpgmoinalongnaaGreatDoorF3
set_option linter.unusedVariables false
set_option linter.unusedSimpArgs false
namespace Go.Proofs.YtpgmoinalongnaaGreatDoor.R
set_option maxRecDepth 100000
theorem noLooks : false = Tryz.pinned.checked.prog.looks [] := by kernel_rfl
theorem Y {a b : Bool} (h : a = true) (k : b = true) : (a && b) = true := by rw [h, k]; rfl
theorem closed3 : joinedFacts Tryz.prog 3 Tryz.f3 Rows.unknownForcedSpec Rows.unknownForcedRow = true := by
  unfold joinedFacts
  rw [inPlace3, unf3, rec3, vars3]
  refine Y (Y (Y (Y (Y (Y (Y (Y (Y (Y (Y (Y (Y (Y (Y (Y (Y (Y (Y (Y (Y (Y (Y (Y (Y (Y (Y (Y (Y (Y (Y ?_ ?_) rowed) ?_) ?_) ?_) stops0) ?_) stopKnobs0) ?_) ?_) ?_) ?_) ?_) ?_) ?_) ?_) ?_) ?_) ?_) ?_) ?_) plainKeys0) ?_) heard) mayEnter) ?_) ?_) ?_) ?_) ?_) ?_
  all_goals kernel_rfl
end Go.Proofs.YtpgmoinalongnaaGreatDoor.R
