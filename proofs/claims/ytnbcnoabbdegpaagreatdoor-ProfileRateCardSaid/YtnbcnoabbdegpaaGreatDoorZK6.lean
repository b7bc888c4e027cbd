/- A part of the proof of the tied card of ProfileRate (chapter 53): the law returns true whatever the input. -/
import Derived.Test.YtnbcnoabbdegpaaGreatDoorZB
set_option linter.unusedVariables false
set_option linter.unusedSimpArgs false
namespace EV
open Go Go.Proofs
set_option maxRecDepth 100000
theorem run6:isFin (runE Tryz.prog (hintOf mk53 cd53 ents6) bk53 (nat_lit 1000000) (nat_lit 6) (nat_lit 4) ent6) = true:=by decide +kernel
end EV
