/- A part of the proof of the tied card of UnknownForced (chapter 39): the law returns true whatever the input. -/
import Derived.Test.YtpgmoinalongnaaGreatDoorA
import Derived.JoinedOf
import Derived.SevenTiedAt
import Derived.KernelRfl
set_option linter.unusedVariables false
set_option linter.unusedSimpArgs false
namespace Go.Proofs.YtpgmoinalongnaaGreatDoor.R
set_option maxRecDepth 100000
theorem rowed : mapsRowed Tryz.prog = true := by kernel_rfl
theorem stops0 : (Tryz.prog.stops == []) = true := by kernel_rfl
theorem stopKnobs0 : (Tryz.prog.stopKnobs == []) = true := by kernel_rfl
theorem plainKeys0 : (false == Tryz.prog.plainKeys) = true := by kernel_rfl
theorem heard : Tryz.prog.stopsHeard = true := by kernel_rfl
theorem mayEnter : Tryz.prog.mayEnter = true := by kernel_rfl
theorem mainIs : Tryz.pinned.checked.prog.mainIs = some (true, ("bdf1cede421d2970022c8ac2f5a200b3834d663819c950c72ba85e610d4a3624" : String).toList) := by kernel_rfl
end Go.Proofs.YtpgmoinalongnaaGreatDoor.R
