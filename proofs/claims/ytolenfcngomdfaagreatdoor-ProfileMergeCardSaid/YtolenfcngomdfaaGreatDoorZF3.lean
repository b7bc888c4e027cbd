/- A part of the proof of the tied card of ProfileMerge (chapter 53): the law returns true whatever the input. -/
import Derived.Test.YtolenfcngomdfaaGreatDoorZA
import Derived.JoinedOf
import Derived.SevenTiedAt
import Derived.KernelRfl
set_option linter.unusedVariables false
set_option linter.unusedSimpArgs false
namespace Go.Proofs.YtolenfcngomdfaaGreatDoor.R
set_option maxRecDepth 100000
theorem rowed : mapsRowed Tryz.prog = true := by kernel_rfl
theorem stops0 : (Tryz.prog.stops == []) = true := by kernel_rfl
theorem stopKnobs0 : (Tryz.prog.stopKnobs == []) = true := by kernel_rfl
theorem plainKeys0 : (false == Tryz.prog.plainKeys) = true := by kernel_rfl
theorem heard : Tryz.prog.stopsHeard = true := by kernel_rfl
theorem mayEnter : Tryz.prog.mayEnter = true := by kernel_rfl
theorem mainIs : Tryz.pinned.checked.prog.mainIs = some (true, ("2c555e4585c7a13ce19aad31a19447f586ca491de94703b23755b72ae27b5014" : String).toList) := by kernel_rfl
end Go.Proofs.YtolenfcngomdfaaGreatDoor.R
