/- A part of the proof of the tied card of UnknownForced (chapter 39): the law returns true whatever the input. -/
import Derived.Test.YtpgmoinalongnaaGreatDoorB
set_option linter.unusedVariables false
set_option linter.unusedSimpArgs false
namespace EV
open Go Go.Proofs
set_option maxRecDepth 100000
theorem run1 : isFin (runE Tryz.prog (hintOf mk39 cd39 ents1) bk39 (nat_lit 1000000) (nat_lit 4) (nat_lit 19) ent1) = true := by decide +kernel
end EV
namespace EV
open Go Go.Proofs
set_option maxRecDepth 100000
theorem run2 : isFin (runE Tryz.prog (hintOf mk39 cd39 ents2) bk39 (nat_lit 1000000) (nat_lit 4) (nat_lit 19) ent2) = true := by decide +kernel
end EV
namespace EV
open Go Go.Proofs
set_option maxRecDepth 100000
theorem run3 : isFin (runE Tryz.prog (hintOf mk39 cd39 ents3) bk39 (nat_lit 1000000) (nat_lit 4) (nat_lit 63) ent3) = true := by decide +kernel
end EV
namespace EV
open Go Go.Proofs
set_option maxRecDepth 100000
theorem run4 : isFin (runE Tryz.prog (hintOf mk39 cd39 ents4) bk39 (nat_lit 1000000) (nat_lit 4) (nat_lit 20) ent4) = true := by decide +kernel
end EV
namespace EV
open Go Go.Proofs
set_option maxRecDepth 100000
theorem run5 : isFin (runE Tryz.prog (hintOf mk39 cd39 ents5) bk39 (nat_lit 1000000) (nat_lit 4) (nat_lit 53) ent5) = true := by decide +kernel
end EV
namespace EV
open Go Go.Proofs
set_option maxRecDepth 100000
theorem run7 : isFin (runE Tryz.prog (hintOf mk39 cd39 ents7) bk39 (nat_lit 1000000) (nat_lit 4) (nat_lit 53) ent7) = true := by decide +kernel
end EV
namespace EV
open Go Go.Proofs
set_option maxRecDepth 100000
theorem run9 : isFin (runE Tryz.prog (hintOf mk39 cd39 ents9) bk39 (nat_lit 1000000) (nat_lit 4) (nat_lit 22) ent9) = true := by decide +kernel
end EV
namespace EV
open Go Go.Proofs
set_option maxRecDepth 100000
theorem run10 : isFin (runE Tryz.prog (hintOf mk39 cd39 ents10) bk39 (nat_lit 1000000) (nat_lit 4) (nat_lit 5) ent10) = true := by decide +kernel
end EV
