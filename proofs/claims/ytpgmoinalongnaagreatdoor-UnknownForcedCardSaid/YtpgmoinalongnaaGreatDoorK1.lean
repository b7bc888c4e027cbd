/- A part of the proof of the tied card of UnknownForced (chapter 39): the law returns true whatever the input. -/
import Derived.Test.YtpgmoinalongnaaGreatDoorB
set_option linter.unusedVariables false
set_option linter.unusedSimpArgs false
namespace EV
open Go Go.Proofs
set_option maxRecDepth 100000
theorem run0 : isFin (runE Tryz.prog (hintOf mk39 cd39 ents0) bk39 (nat_lit 1000000) (nat_lit 4) (nat_lit 18) ent0) = true := by decide +kernel
end EV
