/- A part of the proof of the tied card of UnknownForced (chapter 39): the law returns true whatever the input. -/
import Derived.Test.YtpgmoinalongnaaGreatDoorR1
import Derived.Test.YtpgmoinalongnaaGreatDoorF2
import Derived.Test.YtpgmoinalongnaaGreatDoorF4
set_option linter.unusedVariables false
set_option linter.unusedSimpArgs false
namespace Go.Proofs.YtpgmoinalongnaaGreatDoor.R
set_option maxRecDepth 100000
theorem inst3 : Tryz.f3.isInstance Tryz.pinned.checked.prog Rows.unknownForcedRow.origin Rows.unknownForcedRow.targs := of_decide_eq_true (by kernel_rfl)
theorem wrap3 : Tryz.f3.isWrapper Tryz.pinned.checked.prog Rows.unknownForcedRow.wrapper Rows.unknownForcedRow.mainSum := by
  unfold Func.isWrapper
  first | (rw [if_pos (by decide +kernel)]; kernel_rfl) | (rw [if_neg (by decide +kernel)]; exact ⟨rfl, rfl⟩)
theorem over : Rows.unknownForcedRow.holds Tryz.pinned (OpenSpec.ofChange Rows.unknownForcedSpec) :=
  OpenClaim.holds_of_wide 3 Tryz.f3 rfl rfl rfl rfl rfl rfl rfl ⟨rfl, rfl, rfl, rfl, rfl⟩ rfl rfl rfl rfl rfl named3 Tryz.func3 closed3 inst3 wrap3
    (fun os started H enc _ => lifted os started H enc)
theorem wfBy3 : Rows.unknownForcedRow.wfByText (OpenSpec.ofChange Rows.unknownForcedSpec) = true := by kernel_rfl
theorem card : Rows.UnknownForcedCardSaid :=
  Claim7.holds_tied_plain_at .later [] [.data, .data, .data] true (true, "bdf1cede421d2970022c8ac2f5a200b3834d663819c950c72ba85e610d4a3624") false
    over (fun _ h => by cases h) wfBy3 (fun _ h => by cases h) unknownForced_row_tie rfl ⟨rfl, rfl⟩ mainIs rfl
    (fun f fn hf hfn => by
      obtain rfl : f = 3 := Option.some.inj (named3.symm.trans hf) |>.symm
      obtain rfl : fn = Tryz.f3 := (Option.some.inj (Tryz.func3.symm.trans hfn)).symm
      exact ⟨noLooks, fun j t ht => by
        rw [Tryz.params3] at ht
        have h3 : t = 24 := by
          rcases j with _ | j
          · simpa using ht.symm
          · simp at ht
        subst h3
        exact (show Tryz.prog.wantsStandIn 24 = false by kernel_rfl)⟩)
    goesBy3
#print axioms card
end Go.Proofs.YtpgmoinalongnaaGreatDoor.R
