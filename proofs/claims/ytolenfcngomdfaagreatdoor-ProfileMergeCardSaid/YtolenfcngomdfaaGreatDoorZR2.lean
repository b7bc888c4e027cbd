/- A part of the proof of the tied card of ProfileMerge (chapter 53): the law returns true whatever the input. -/
import Derived.Test.YtolenfcngomdfaaGreatDoorZR1
import Derived.Test.YtolenfcngomdfaaGreatDoorZF2
import Derived.Test.YtolenfcngomdfaaGreatDoorZF4
set_option linter.unusedVariables false
set_option linter.unusedSimpArgs false
namespace Go.Proofs.YtolenfcngomdfaaGreatDoor.R
set_option maxRecDepth 100000
theorem inst3 : Tryz.f3.isInstance Tryz.pinned.checked.prog Rows.profileMergeRow.origin Rows.profileMergeRow.targs := of_decide_eq_true (by kernel_rfl)
theorem wrap3 : Tryz.f3.isWrapper Tryz.pinned.checked.prog Rows.profileMergeRow.wrapper Rows.profileMergeRow.mainSum := by
  unfold Func.isWrapper
  first | (rw [if_pos (by decide +kernel)]; kernel_rfl) | (rw [if_neg (by decide +kernel)]; exact ⟨rfl, rfl⟩)
theorem over : Rows.profileMergeRow.holds Tryz.pinned (OpenSpec.ofChange Rows.profileMergeSpec) :=
  OpenClaim.holds_of_wide 3 Tryz.f3 rfl rfl rfl rfl rfl rfl rfl ⟨rfl, rfl, rfl, rfl, rfl⟩ rfl rfl rfl rfl rfl named3 Tryz.func3 closed3 inst3 wrap3
    (fun os started H enc _ => lifted os started H enc)
theorem wfBy3 : Rows.profileMergeRow.wfByText (OpenSpec.ofChange Rows.profileMergeSpec) = true := by kernel_rfl
theorem card : Rows.ProfileMergeCardSaid :=
  Claim7.holds_tied_plain_at .later [] [.data, .data, .data, .data, .pinned] true (true, "2c555e4585c7a13ce19aad31a19447f586ca491de94703b23755b72ae27b5014") false
    over (fun _ h => by cases h) wfBy3 (fun _ h => by cases h) profileMerge_row_tie rfl ⟨rfl, rfl⟩ mainIs rfl
    (fun f fn hf hfn => by
      obtain rfl : f = 3 := Option.some.inj (named3.symm.trans hf) |>.symm
      obtain rfl : fn = Tryz.f3 := (Option.some.inj (Tryz.func3.symm.trans hfn)).symm
      exact ⟨noLooks, fun j t ht => by
        rw [Tryz.params3] at ht
        have h3 : t = 28 := by
          rcases j with _ | _ | j
          · simpa using ht.symm
          · simpa using ht.symm
          · simp at ht
        subst h3
        exact (show Tryz.prog.wantsStandIn 28 = false by kernel_rfl)⟩)
    goesBy3
#print axioms card
end Go.Proofs.YtolenfcngomdfaaGreatDoor.R
