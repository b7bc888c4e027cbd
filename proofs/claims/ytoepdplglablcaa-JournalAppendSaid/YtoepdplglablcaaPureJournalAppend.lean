/- Append, Sync and Read of any journal are as specified. -/
import Derived.Test.YtoepdplglablcaaJx6
import Derived.Test.YtoepdplglablcaaJA
import Derived.Test.YtoepdplglablcaaJB
namespace Go.Proofs.Ytoepdplglablcaa.JP
open Go.RowKit Go.Proofs.YtoepdplglablcaaW.PrintWords Go.Proofs.YtoepdplglablcaaW.PrintLast Go.Proofs.YtoepdplglablcaaW.PrintMore
open Go.Proofs.Ytoepdplglablcaa.J Go.Proofs.Ytoepdplglablcaa.Sp
set_option linter.unusedVariables false
theorem law_append (a b p : ByteArray) : ∃ k, ancepslaw56_JournalAppend.f k a b p = some true := by
  obtain ⟨K0, h0⟩ := awake_ev
  replace h0 : ∀ k, K0 ≤ k → ancepslaw56_awake.f k = some true := h0
  by_cases hg : (a.size ≤ 101000 ∧ b.size ≤ 101000) ∧ p.size ≤ 1000
  · obtain ⟨⟨ha, hb⟩, hp⟩ := hg
    obtain ⟨K1, h1⟩ := append_ev a b p (by omega) (by omega) (by omega)
    obtain ⟨K2, h2⟩ := rappend_ev a b p (by omega) (by omega) (by omega)
    obtain ⟨l, hl⟩ := parsed_ex (L a ++ L b) (by rw [List.length_append, L_len, L_len]; omega)
    obtain ⟨K3, h3⟩ := read_of (by omega) hl
    obtain ⟨K4, h4⟩ := rread_of (by omega) hl
    have hle := (parsed_len hl).1
    rw [List.length_append, L_len, L_len] at hle
    obtain ⟨K5, h5⟩ := same_ev (l.map B) (by rw [List.length_map]; omega)
    generalize (if p.size ≤ 400 then (if a.size + b.size + (8 + p.size) > 100000 then (B [], B [], (16 : Int)) else (a, b ++ B (frame (L p)), 0)) else (B [], B [], 3)) = r at h1 h2
    replace h1 : ∀ k, K1 ≤ k → journal_Append.f k a b p = some r := h1
    replace h2 : ∀ k, K2 ≤ k → ancepsref56_Append.f k a b p = some r := h2
    replace h3 : ∀ k, K3 ≤ k → journal_Read.f k a b = some (l.map B) := h3
    replace h4 : ∀ k, K4 ≤ k → ancepsref56_Read.f k a b = some (l.map B) := h4
    replace h5 : ∀ k, K5 ≤ k → ancepsref56_Same.f k (l.map B) (l.map B) = some true := h5
    refine ⟨K0 + K1 + K2 + K3 + K4 + K5 + 1, ?_⟩
    simp only [ancepslaw56_JournalAppend.f]
    rw [h0 _ (by omega)]
    simp only [Option.bind_some, if_true]
    rw [few_eq, decide_eq_true ⟨ha, hb⟩]
    simp only [Option.bind_some, if_true]
    rw [decide_eq_false (by omega)]
    simp only [ancepslaw56_JournalAppend.j0]
    rw [if_neg (by decide), h1 _ (by omega), h2 _ (by omega)]
    simp only [Option.bind_some, beq_self_eq_true, Bool.and_self, if_true, journal_Sync.f, ancepsref56_Sync.f]
    rw [if_pos (by omega)]
    simp only [Option.bind_some, beq_self_eq_true, Bool.and_self, if_true]
    rw [h3 _ (by omega), h4 _ (by omega)]
    simp only [Option.bind_some]
    rw [h5 _ (by omega)]
    rfl
  · refine ⟨K0 + 1, ?_⟩
    simp only [ancepslaw56_JournalAppend.f]
    rw [h0 _ (by omega)]
    simp only [Option.bind_some, if_true]
    rw [few_eq]
    simp only [Option.bind_some]
    by_cases hab : a.size ≤ 101000 ∧ b.size ≤ 101000
    · rw [if_pos (by rw [decide_eq_true hab]), decide_eq_true (by omega)]
      simp only [ancepslaw56_JournalAppend.j0]
      rw [if_pos trivial, h0 _ (by omega)]
      rfl
    · rw [if_neg (by rw [decide_eq_false hab]; decide)]
      simp only [ancepslaw56_JournalAppend.j0]
      rw [if_pos trivial, h0 _ (by omega)]
      rfl


end Go.Proofs.Ytoepdplglablcaa.JP
namespace Go.Proofs.Ytoepdplglablcaa.Pure
open Go.Proofs.Ytoepdplglablcaa.J
theorem JournalAppend (a b p : ByteArray) : ∃ k, ancepslaw56_JournalAppend.f k a b p = some true := JP.law_append a b p
end Go.Proofs.Ytoepdplglablcaa.Pure
