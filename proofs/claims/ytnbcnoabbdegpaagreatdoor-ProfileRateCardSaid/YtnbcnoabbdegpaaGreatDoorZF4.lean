/- A part of the proof of the tied card of ProfileRate (chapter 53): the law returns true whatever the input. -/
import Derived.Test.YtnbcnoabbdegpaaGreatDoorZA
import Derived.JoinedOf
import Derived.SevenTiedAt
import Derived.KernelRfl
import Derived.Test.YtnbcnoabbdegpaaGreatDoorZLO
import Derived.Test.YtnbcnoabbdegpaaGreatDoorZF1
import Derived.Test.YtnbcnoabbdegpaaGreatDoorZF3
set_option linter.unusedVariables false
set_option linter.unusedSimpArgs false
namespace Go.Proofs.YtnbcnoabbdegpaaGreatDoor.R
set_option maxRecDepth 100000
theorem noLooks:false = Tryz.pinned.checked.prog.looks []:=by kernel_rfl
theorem Y {a b:Bool} (h:a = true) (k:b = true):(a && b) = true:=by rw [h,k];rfl
theorem q0:laidOutB Tryz.prog = true:=laidOut
theorem q1:(Tryz.f3.params.all fun x => Tryz.prog.readableRec x) = true:=by kernel_rfl
theorem q2:namedTie Tryz.prog Rows.profileRateRow.named Rows.profileRateSpec.vars = true:=by kernel_rfl
theorem q3:(Rows.profileRateRow.maps == (Tryz.f3.params.toList ++ DataSpec.varTypes Tryz.prog Rows.profileRateSpec.plain).any fun x => Tryz.prog.mapsRec x) = true:=by kernel_rfl
theorem q4:(Rows.profileRateRow.ifaces == (Tryz.f3.params.toList ++ DataSpec.varTypes Tryz.prog Rows.profileRateSpec.plain).any fun x => Tryz.prog.ifacesRec x) = true:=by kernel_rfl
theorem q5:(Rows.profileRateRow.mapsOut == Tryz.prog.mapsAmong Tryz.f3.resultTypes.toList) = true:=by kernel_rfl
theorem q6:(Rows.profileRateRow.loops == (Tryz.f3.params.toList ++ DataSpec.varTypes Tryz.prog Rows.profileRateSpec.plain).any fun x => Tryz.prog.loopsFrom x) = true:=by kernel_rfl
theorem q7:(Rows.profileRateRow.wideKeys == (Tryz.f3.params.toList ++ DataSpec.varTypes Tryz.prog Rows.profileRateSpec.plain ++ Tryz.f3.resultTypes.toList).any fun x => Tryz.prog.wideKeysFrom x) = true:=by kernel_rfl
theorem q8:(Rows.profileRateSpec.vars.all fun x => Tryz.prog.varReadable x) = true:=by kernel_rfl
theorem q9:(Tryz.f3.resultTypes.all fun t => Tryz.prog.readableRec t && decide (t < Tryz.prog.types.size)) = true:=by kernel_rfl
theorem q10:(Rows.profileRateRow.lifted == Tryz.prog.liftsFinal) = true:=by kernel_rfl
theorem q11:(Tryz.prog.make == some Rows.profileRateRow.make) = true:=by kernel_rfl
theorem q12:(Rows.profileRateRow.veiled == (Tryz.f3.params.toList ++ DataSpec.varTypes Tryz.prog Rows.profileRateSpec.plain ++ Tryz.f3.resultTypes.toList).any fun x => Tryz.prog.veiledRec x) = true:=by kernel_rfl
theorem q13:Rows.profileRateRow.veiledFits Tryz.prog Tryz.f3.params.toList (Tryz.f3.params.toList ++ DataSpec.varTypes Tryz.prog Rows.profileRateSpec.plain ++ Tryz.f3.resultTypes.toList) = true:=by kernel_rfl
theorem closed3:joinedFacts Tryz.prog 3 Tryz.f3 Rows.profileRateSpec Rows.profileRateRow = true:=by
 unfold joinedFacts
 rw [inPlace3,unf3,rec3,vars3]
 refine Y (Y (Y (Y (Y (Y (Y (Y (Y (Y (Y (Y (Y (Y (Y (Y (Y (Y (Y (Y (Y (Y (Y (Y (Y (Y (Y (Y (Y (Y (Y ?_ ?_) rowed) ?_) ?_) ?_) stops0) ?_) stopKnobs0) ?_) ?_) ?_) ?_) ?_) ?_) ?_) ?_) ?_) ?_) ?_) ?_) ?_) plainKeys0) ?_) heard) mayEnter) ?_) ?_) ?_) ?_) ?_) ?_
 all_goals first | with_reducible exact q0 | with_reducible exact q1 | with_reducible exact q2 | with_reducible exact q3 | with_reducible exact q4 | with_reducible exact q5 | with_reducible exact q6 | with_reducible exact q7 | with_reducible exact q8 | with_reducible exact q9 | with_reducible exact q10 | with_reducible exact q11 | with_reducible exact q12 | with_reducible exact q13 | kernel_rfl
end Go.Proofs.YtnbcnoabbdegpaaGreatDoor.R
