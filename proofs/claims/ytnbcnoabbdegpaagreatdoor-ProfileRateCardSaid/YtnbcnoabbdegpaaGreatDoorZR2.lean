/- A part of the proof of the tied card of ProfileRate (chapter 53): the law returns true whatever the input. -/
import Derived.Test.YtnbcnoabbdegpaaGreatDoorZR1
import Derived.Test.YtnbcnoabbdegpaaGreatDoorZF2
import Derived.Test.YtnbcnoabbdegpaaGreatDoorZF4
set_option linter.unusedVariables false
set_option linter.unusedSimpArgs false
namespace Go.Proofs.YtnbcnoabbdegpaaGreatDoor.R
set_option maxRecDepth 100000
theorem inst3:Tryz.f3.isInstance Tryz.pinned.checked.prog Rows.profileRateRow.origin Rows.profileRateRow.targs:=of_decide_eq_true (by kernel_rfl)
theorem wrap3:Tryz.f3.isWrapper Tryz.pinned.checked.prog Rows.profileRateRow.wrapper Rows.profileRateRow.mainSum:=by
 unfold Func.isWrapper
 first | (rw [if_pos (by decide +kernel)];kernel_rfl) | (rw [if_neg (by decide +kernel)];exact ⟨rfl,rfl⟩)
theorem over:Rows.profileRateRow.holds Tryz.pinned (OpenSpec.ofChange Rows.profileRateSpec):=
 OpenClaim.holds_of_wide 3 Tryz.f3 rfl rfl rfl rfl rfl rfl rfl ⟨rfl,rfl,rfl,rfl,rfl⟩ rfl rfl rfl rfl rfl named3 Tryz.func3 closed3 inst3 wrap3
  (fun os started H enc _ => lifted os started H enc)
theorem wfBy3:Rows.profileRateRow.wfByText (OpenSpec.ofChange Rows.profileRateSpec) = true:=by kernel_rfl
theorem card:Rows.ProfileRateCardSaid:=
 Claim7.holds_tied_plain_at .later [] [.data,.data,.data,.data,.pinned] true (true,"b93e8d7b44d552cca7a01f30bf1b91579ca77abb00b5b6bcdaafd47a6b274915") false
  over (fun _ h => by cases h) wfBy3 (fun _ h => by cases h) profileRate_row_tie rfl ⟨rfl,rfl⟩ mainIs rfl
  (fun f fn hf hfn => by
   obtain rfl:f = 3:=Option.some.inj (named3.symm.trans hf) |>.symm
   obtain rfl:fn = Tryz.f3:=(Option.some.inj (Tryz.func3.symm.trans hfn)).symm
   exact ⟨noLooks,fun j t ht => by
    rw [Tryz.params3] at ht
    rcases j with _ | _ | j
    ·have h3:t = 28:=by simpa using ht.symm
     subst h3
     exact (show Tryz.prog.wantsStandIn 28 = false by kernel_rfl)
    ·have h3:t = 9:=by simpa using ht.symm
     subst h3
     exact (show Tryz.prog.wantsStandIn 9 = false by kernel_rfl)
    ·simp at ht⟩)
  goesBy3
#print axioms card
end Go.Proofs.YtnbcnoabbdegpaaGreatDoor.R
