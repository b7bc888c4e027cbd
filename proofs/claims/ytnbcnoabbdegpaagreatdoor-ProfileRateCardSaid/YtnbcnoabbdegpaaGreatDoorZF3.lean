/- A part of the proof of the tied card of ProfileRate (chapter 53): the law returns true whatever the input. -/
import Derived.Test.YtnbcnoabbdegpaaGreatDoorZA
import Derived.JoinedOf
import Derived.SevenTiedAt
import Derived.KernelRfl
set_option linter.unusedVariables false
set_option linter.unusedSimpArgs false
namespace Go.Proofs.YtnbcnoabbdegpaaGreatDoor.R
set_option maxRecDepth 100000
theorem rowed:mapsRowed Tryz.prog = true:=by kernel_rfl
theorem stops0:(Tryz.prog.stops == []) = true:=by kernel_rfl
theorem stopKnobs0:(Tryz.prog.stopKnobs == []) = true:=by kernel_rfl
theorem plainKeys0:(false == Tryz.prog.plainKeys) = true:=by kernel_rfl
theorem heard:Tryz.prog.stopsHeard = true:=by kernel_rfl
theorem mayEnter:Tryz.prog.mayEnter = true:=by kernel_rfl
theorem mainIs:Tryz.pinned.checked.prog.mainIs = some (true,("b93e8d7b44d552cca7a01f30bf1b91579ca77abb00b5b6bcdaafd47a6b274915":String).toList):=by kernel_rfl
end Go.Proofs.YtnbcnoabbdegpaaGreatDoor.R
