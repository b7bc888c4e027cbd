/- Crash of any journal is as specified. -/
import Derived.Test.YtoepdplglablcaaJx7
import Derived.Test.YtoepdplglablcaaJA
import Derived.Test.YtoepdplglablcaaJB
namespace Go.Proofs.Ytoepdplglablcaa.JP
open Go.RowKit Go.Proofs.YtoepdplglablcaaW.PrintWords Go.Proofs.YtoepdplglablcaaW.PrintLast Go.Proofs.YtoepdplglablcaaW.PrintMore
open Go.Proofs.Ytoepdplglablcaa.J Go.Proofs.Ytoepdplglablcaa.Sp
set_option linter.unusedVariables false
theorem rcrash_eq (a b : ByteArray) (n t : Int) (ha : a.size ≤ 1000000) (hb : b.size ≤ 1000000) (ht : t ≤ 9223372036854775807) (k : Nat) : ancepsref56_Crash.f (k + 1) a b n t = journal_Crash.f a b n t := by
  simp only [journal_Crash.f, ancepsref56_Crash.f, ancepsref56_Crash.j0]
  rw [if_pos (show a.size ≤ 140737488351232 ∧ b.size ≤ 140737488351232 ∧ t ≤ 9223372036854775807 from ⟨by omega, by omega, ht⟩)]
  by_cases c1 : n < 0
  · rw [if_pos c1, if_pos trivial, if_pos (show n < 0 ∨ n > (b.size : Int) ∨ t < -1 ∨ t ≥ 8 * n from .inl c1)]
  · by_cases c2 : n > (b.size : Int)
    · rw [if_neg c1, if_pos c2, if_pos trivial, if_pos (show n < 0 ∨ n > (b.size : Int) ∨ t < -1 ∨ t ≥ 8 * n from .inr (.inl c2))]
    · by_cases c3 : t < -1
      · rw [if_neg c1, if_neg c2, if_pos c3, if_pos trivial, if_pos (show n < 0 ∨ n > (b.size : Int) ∨ t < -1 ∨ t ≥ 8 * n from .inr (.inr (.inl c3)))]
      · have e : wrap64 (wrap64 (8 * n) - 1) = 8 * n - 1 := by unfold wrap64; omega
        rw [if_neg c1, if_neg c2, if_neg c3, e]
        by_cases c4 : t ≥ 8 * n
        · rw [if_pos (by rw [decide_eq_true_eq]; omega), if_pos (show n < 0 ∨ n > (b.size : Int) ∨ t < -1 ∨ t ≥ 8 * n from .inr (.inr (.inr c4)))]
        · have c5 : ¬ (n < 0 ∨ n > (b.size : Int) ∨ t < -1 ∨ t ≥ 8 * n) := by omega
          have hes : (b.extract 0 n.toNat).size = n.toNat := by rw [ByteArray.size_extract]; omega
          rw [if_neg (by rw [decide_eq_true_eq]; omega), if_neg c5, if_pos (show 0 ≤ n by omega), if_pos (show n ≤ (b.size : Int) by omega)]
          by_cases c6 : t ≥ 0
          · rw [if_pos c6, if_pos (show 0 ≤ t by omega)]
            simp only [ancepsref56_Turned.f]
            rw [if_pos ⟨by omega, by omega, by omega⟩, if_pos (by rw [hes]; omega)]
            simp only [Option.bind_some]
            rw [if_pos (by rw [turnBit_size, hes]; omega)]
          · rw [if_neg c6, if_neg (show ¬ 0 ≤ t by omega), if_pos (by rw [hes]; omega)]

theorem crash_some (a b : ByteArray) (n t : Int) (ha : a.size ≤ 1000000) (hb : b.size ≤ 1000000) (ht : t ≤ 9223372036854775807) : ∃ r, journal_Crash.f a b n t = some r := by
  simp only [journal_Crash.f]
  rw [if_pos ⟨by omega, by omega, ht⟩]
  split
  · exact ⟨_, rfl⟩
  · split <;> exact ⟨_, rfl⟩

theorem law_crash (a b : ByteArray) (n t : Int) (ht : t ≤ 9223372036854775807) : ∃ k, ancepslaw56_JournalCrash.f k a b n t = some true := by
  obtain ⟨K0, h0⟩ := awake_ev
  replace h0 : ∀ k, K0 ≤ k → ancepslaw56_awake.f k = some true := h0
  by_cases hg : a.size ≤ 101000 ∧ b.size ≤ 101000
  · refine ⟨K0 + 2, ?_⟩
    simp only [ancepslaw56_JournalCrash.f]
    rw [h0 _ (by omega)]
    simp only [Option.bind_some, if_true]
    rw [few_eq, decide_eq_true hg]
    simp only [Option.bind_some]
    obtain ⟨r, hr⟩ := crash_some a b n t (by omega) (by omega) ht
    rw [show K0 + 2 = (K0 + 1) + 1 from rfl]
    simp only [ancepslaw56_JournalCrash.j0]
    rw [if_neg (by decide), rcrash_eq a b n t (by omega) (by omega) ht, hr]
    simp
  · refine ⟨K0 + 1, ?_⟩
    simp only [ancepslaw56_JournalCrash.f]
    rw [h0 _ (by omega)]
    simp only [Option.bind_some, if_true]
    rw [few_eq, decide_eq_false hg]
    simp only [Option.bind_some]
    simp only [ancepslaw56_JournalCrash.j0]
    rw [if_pos (by decide), h0 _ (by omega)]
    rfl


end Go.Proofs.Ytoepdplglablcaa.JP
namespace Go.Proofs.Ytoepdplglablcaa.Pure
open Go.Proofs.Ytoepdplglablcaa.J
theorem JournalCrash (a b : ByteArray) (n t : Int) (ht : t ≤ 9223372036854775807) : ∃ k, ancepslaw56_JournalCrash.f k a b n t = some true := JP.law_crash a b n t ht
end Go.Proofs.Ytoepdplglablcaa.Pure
