/- A part of the proof of the tied card of UnknownForced (chapter 39): the law returns true whatever the input. -/
import Derived.Test.YtpgmoinalongnaaGreatDoorB
set_option linter.unusedVariables false
set_option linter.unusedSimpArgs false
namespace EV
open Go Go.Proofs
set_option maxRecDepth 100000
theorem run8 : isFin (runE Tryz.prog (hintOf mk39 cd39 ents8) bk39 (nat_lit 1000000) (nat_lit 4) (nat_lit 21) ent8) = true := by decide +kernel
end EV
