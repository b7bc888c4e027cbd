/- A part of the proof of the tied card of ProfileRate (chapter 53): the law returns true whatever the input. -/
import Derived.Test.YtnbcnoabbdegpaaGreatDoorCards
import Derived.Test.YtnbcnoabbdegpaaGreatDoorZK
import Derived.LaidMore
import Derived.Lay
import Derived.OpenShut
import Derived.Stop.Joined
import Derived.ProofKit
import Derived.KernelRfl
import Derived.Test.YtnbcnoabbdegpaaGreatDoorZLO
set_option linter.unusedVariables false
set_option linter.unusedSimpArgs false
namespace Go.Proofs.YtnbcnoabbdegpaaGreatDoor.R
open Go.ChangeShapes Go.WideShapes Go.ChangeAt Go.RowKit
set_option maxRecDepth 100000
theorem own:ownKnob Tryz.prog.godebug = none:=by kernel_rfl
theorem gTab:Tryz.prog.globalNamed "internal/strconv.uint64pow10" = some 0:=by kernel_rfl
theorem tTab:(Tryz.prog.globals[0]?).map (·.type) = some 462:=by kernel_rfl
def laid3:List (String × DataW Unit):=Rows.profileRateRow.laid
def noArgs:Array Value:=#[.agg #[.string ⟨#[]⟩,.slice none 0 0,.slice none 0 0,.slice none 0 0],.string ⟨#[]⟩]
theorem layFits3 (os:Os):(World.holding Tryz.prog os ⟨#[],#[],[]⟩).layFits Tryz.prog laid3 [] = true:=by kernel_rfl
theorem layIfaces3 (os:Os):(World.holding Tryz.prog os ⟨#[],#[],[]⟩).layIfaces Tryz.prog laid3 (World.laidAll Tryz.prog os laid3) = true:=by kernel_rfl
theorem plain3:(laid3.all fun x => x.2.handleName?.isNone) = true:=by kernel_rfl
theorem start1:(((begin Tryz.prog (fun _ _ => 0) default).world.heap[0]?).bind Obj.row?).map (·.2) = some 462:=by kernel_rfl
theorem start3:((((begin Tryz.prog (fun _ _ => 0) default).world.heap[5]?).bind Obj.row?).map (·.2)).isSome = true:=by kernel_rfl
theorem globs:Tryz.prog.globals.size = 6:=by kernel_rfl
end Go.Proofs.YtnbcnoabbdegpaaGreatDoor.R
