/- A part of the proof of the tied card of ProfileRate (chapter 53): the law returns true whatever the input. -/
import Derived.Test.YtnbcnoabbdegpaaGreatDoorZB
set_option linter.unusedVariables false
set_option linter.unusedSimpArgs false
namespace EV
open Go Go.Proofs
set_option maxRecDepth 100000
theorem run3:isFin (runE Tryz.prog (hintOf mk53 cd53 ents3) bk53 (nat_lit 1000000) (nat_lit 6) (nat_lit 93) ent3) = true:=by decide +kernel
end EV
