/- A part of the proof of the tied card of ProfileRate (chapter 53): the law returns true whatever the input. -/
import Derived.Test.YtnbcnoabbdegpaaGreatDoorZA
import Derived.JoinedOf
import Derived.SevenTiedAt
import Derived.KernelRfl
set_option linter.unusedVariables false
set_option linter.unusedSimpArgs false
namespace Go.Proofs.YtnbcnoabbdegpaaGreatDoor.R
set_option maxRecDepth 100000
theorem goes3:((Tryz.prog.closure 3).any fun g => (Tryz.prog.funcs[g]?).any Func.goes) = false:=by
 rw [cl3_ok]
 kernel_rfl
theorem goesAll:Tryz.prog.funcs.any Func.goes = false:=by kernel_rfl
theorem named3:Tryz.prog.funcNamed "anceps/ancepslaw53.ProfileRate" = some 3:=by kernel_rfl
theorem goesOf (P:Program) (f:FuncId) (r:OpenClaim) (hs:r.start = .entering) (hn:P.funcNamed r.func = some f) (hg:P.goes f = false):false = r.goesBy P:=by
 unfold OpenClaim.goesBy Program.goesAt Program.goesFrom
 rw [hs,hn,Option.any_some,hg]
 rfl
theorem noGoes3:Tryz.prog.goes 3 = false:=by
 rw [Program.goes,goes3,goesAll,Bool.and_false,Bool.or_false]
theorem goesBy3:false = Rows.profileRateRow.goesBy Tryz.prog:=goesOf _ _ _ rfl named3 noGoes3
end Go.Proofs.YtnbcnoabbdegpaaGreatDoor.R
