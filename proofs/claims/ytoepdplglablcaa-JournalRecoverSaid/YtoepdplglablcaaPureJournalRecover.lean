/- Recover of any journal is as specified; done once more it changes nothing. -/
import Derived.Test.YtoepdplglablcaaJx10
import Derived.Test.YtoepdplglablcaaJA
import Derived.Test.YtoepdplglablcaaJB
namespace Go.Proofs.Ytoepdplglablcaa.JP
open Go.RowKit Go.Proofs.YtoepdplglablcaaW.PrintWords Go.Proofs.YtoepdplglablcaaW.PrintLast Go.Proofs.YtoepdplglablcaaW.PrintMore
open Go.Proofs.Ytoepdplglablcaa.J Go.Proofs.Ytoepdplglablcaa.Sp
set_option linter.unusedVariables false
theorem recover_of {a b : ByteArray} (hs : a.size + b.size ≤ 1000000) {l : List (List UInt8)} (h : Parsed (L a ++ L b) l) :
    Ev (fun k => journal_Recover.f k a b) (B (enc l), (⟨#[]⟩ : ByteArray), l.map B) ∧ Ev (fun k => ancepsref56_Recover.f k a b) (B (enc l), (⟨#[]⟩ : ByteArray), l.map B) := by
  obtain ⟨K, hK⟩ := frames_of (s := a ++ b) (by rw [ByteArray.size_append]; exact hs) (by rw [L_app]; exact h)
  obtain ⟨K2, hK2⟩ := rframes_of (s := a ++ b) (by rw [ByteArray.size_append]; exact hs) (by rw [L_app]; exact h)
  replace hK : ∀ k, K ≤ k → journal_Frames.f k (a ++ b) = some (l.map B, ((enc l).length : Int)) := hK
  replace hK2 : ∀ k, K2 ≤ k → ancepsref56_Frames.f k (a ++ b) = some (l.map B, ((enc l).length : Int)) := hK2
  have hle := (parsed_len h).2
  rw [List.length_append, L_len, L_len] at hle
  have hcut : (a ++ b).extract 0 (((enc l).length : Int)).toNat = B (enc l) := by
    apply L_inj
    obtain ⟨_, r, e, _⟩ := h
    rw [L_ext, L_app, e, Int.toNat_natCast, List.take_left, L_B]; rfl
  constructor
  · refine ⟨K, fun k hk => ?_⟩
    simp only [journal_Recover.f]
    rw [if_pos (by omega), hK k hk]
    simp only [Option.bind_some]
    rw [if_pos (by omega), if_pos (by omega), hcut]
  · refine ⟨K2, fun k hk => ?_⟩
    simp only [ancepsref56_Recover.f]
    rw [if_pos (by omega), hK2 k hk]
    simp only [Option.bind_some]
    rw [if_pos (by omega), if_pos (by omega), hcut]

theorem law_recover (a b : ByteArray) : ∃ k, ancepslaw56_JournalRecover.f k a b = some true := by
  obtain ⟨K0, h0⟩ := awake_ev
  replace h0 : ∀ k, K0 ≤ k → ancepslaw56_awake.f k = some true := h0
  by_cases hg : a.size ≤ 101000 ∧ b.size ≤ 101000
  · obtain ⟨l, hl⟩ := parsed_ex (L a ++ L b) (by rw [List.length_append, L_len, L_len]; omega)
    have hle := parsed_len hl
    rw [List.length_append, L_len, L_len] at hle
    obtain ⟨⟨K1, h1⟩, ⟨K2, h2⟩⟩ := recover_of (by omega) hl
    have hw : Parsed (L (B (enc l)) ++ L (⟨#[]⟩ : ByteArray)) l := by
      rw [L_B, L_nil, List.append_nil]; exact Parsed.whole hl.1
    obtain ⟨⟨K3, h3⟩, _⟩ := recover_of (by rw [B_size, size_mt]; omega) hw
    obtain ⟨K4, h4⟩ := read_of (by omega) hl
    obtain ⟨K5, h5⟩ := read_of (by rw [B_size, size_mt]; omega) hw
    obtain ⟨K6, h6⟩ := same_ev (l.map B) (by rw [List.length_map]; omega)
    replace h1 : ∀ k, K1 ≤ k → journal_Recover.f k a b = some (B (enc l), (⟨#[]⟩ : ByteArray), l.map B) := h1
    replace h2 : ∀ k, K2 ≤ k → ancepsref56_Recover.f k a b = some (B (enc l), (⟨#[]⟩ : ByteArray), l.map B) := h2
    replace h3 : ∀ k, K3 ≤ k → journal_Recover.f k (B (enc l)) (⟨#[]⟩ : ByteArray) = some (B (enc l), (⟨#[]⟩ : ByteArray), l.map B) := h3
    replace h4 : ∀ k, K4 ≤ k → journal_Read.f k a b = some (l.map B) := h4
    replace h5 : ∀ k, K5 ≤ k → journal_Read.f k (B (enc l)) (⟨#[]⟩ : ByteArray) = some (l.map B) := h5
    replace h6 : ∀ k, K6 ≤ k → ancepsref56_Same.f k (l.map B) (l.map B) = some true := h6
    refine ⟨K0 + K1 + K2 + K3 + K4 + K5 + K6 + 1, ?_⟩
    simp only [ancepslaw56_JournalRecover.f]
    rw [h0 _ (by omega)]
    simp only [Option.bind_some, if_true]
    rw [few_eq, decide_eq_true hg]
    simp only [Option.bind_some]
    simp only [ancepslaw56_JournalRecover.j0]
    rw [if_neg (by decide), h1 _ (by omega), h2 _ (by omega)]
    simp only [Option.bind_some]
    rw [h3 _ (by omega)]
    simp only [Option.bind_some, beq_self_eq_true, Bool.and_self, if_true]
    rw [h6 _ (by omega)]
    simp only [Option.bind_some, if_true]
    rw [h4 _ (by omega)]
    simp only [Option.bind_some]
    rw [h6 _ (by omega)]
    simp only [Option.bind_some, if_true]
    rw [h5 _ (by omega)]
    simp only [Option.bind_some]
    rw [h6 _ (by omega)]
    rfl
  · refine ⟨K0 + 1, ?_⟩
    simp only [ancepslaw56_JournalRecover.f]
    rw [h0 _ (by omega)]
    simp only [Option.bind_some, if_true]
    rw [few_eq, decide_eq_false hg]
    simp only [Option.bind_some]
    simp only [ancepslaw56_JournalRecover.j0]
    rw [if_pos (by decide), h0 _ (by omega)]
    rfl

end Go.Proofs.Ytoepdplglablcaa.JP
namespace Go.Proofs.Ytoepdplglablcaa.Pure
open Go.Proofs.Ytoepdplglablcaa.J
theorem JournalRecover (a b : ByteArray) : ∃ k, ancepslaw56_JournalRecover.f k a b = some true := JP.law_recover a b
end Go.Proofs.Ytoepdplglablcaa.Pure
