/- Frame returns the frame of any payload, or the specified error, Check the check sum, and Frames leads back: for every string of at most 2^47 - 4096 bytes. -/
import Derived.Test.YtoepdplglablcaaJx4
import Derived.Test.YtoepdplglablcaaJA
namespace Go.Proofs.Ytoepdplglablcaa.JP
open Go.RowKit Go.Proofs.YtoepdplglablcaaW.PrintWords Go.Proofs.YtoepdplglablcaaW.PrintLast Go.Proofs.YtoepdplglablcaaW.PrintMore
open Go.Proofs.Ytoepdplglablcaa.J Go.Proofs.Ytoepdplglablcaa.Sp
set_option linter.unusedVariables false
theorem law_frame (p : ByteArray) : ∃ k, ancepslaw56_JournalFrame.f k p = some true := by
  obtain ⟨K0, h0⟩ := awake_ev
  replace h0 : ∀ k, K0 ≤ k → ancepslaw56_awake.f k = some true := h0
  by_cases hp : p.size ≤ 1000
  · obtain ⟨K1, h1⟩ := frame_ev p (by omega)
    obtain ⟨K2, h2⟩ := rframe_ev p (by omega)
    obtain ⟨K3, h3⟩ := check_ev p (by omega)
    obtain ⟨K4, h4⟩ := rcheck_ev p (by omega)
    replace h1 : ∀ k, K1 ≤ k → journal_Frame.f k p = some (if p.size ≤ 400 then (B (frame (L p)), 0) else (B [], 3)) := h1
    replace h2 : ∀ k, K2 ≤ k → ancepsref56_Frame.f k p = some (if p.size ≤ 400 then (B (frame (L p)), 0) else (B [], 3)) := h2
    replace h3 : ∀ k, K3 ≤ k → journal_Check.f k p = some (chk (L p) : Int) := h3
    replace h4 : ∀ k, K4 ≤ k → ancepsref56_Check.f k p = some (chk (L p) : Int) := h4
    by_cases hq : p.size ≤ 400
    · have hpp : Parsed (L (B (frame (L p)))) [L p] := by
        rw [L_B]
        have := Parsed.whole (l := [L p]) (fun q hq' => by rw [List.mem_singleton.1 hq', L_len]; exact hq)
        simpa [enc] using this
      obtain ⟨K5, h5⟩ := frames_of (s := B (frame (L p))) (by rw [B_size, frame_length, L_len]; omega) hpp
      replace h5 : ∀ k, K5 ≤ k → journal_Frames.f k (B (frame (L p))) = some ([p], ((frame (L p)).length : Int)) := by
        intro k hk
        have : journal_Frames.f k (B (frame (L p))) = _ := h5 k hk
        rw [this]; simp [enc, B_L]
      obtain ⟨K6, h6⟩ := equal_ev [p] (by simp)
      replace h6 : ∀ k, K6 ≤ k → slices_Equal_string_string.f k [p] [p] = some true := h6
      refine ⟨K0 + K1 + K2 + K3 + K4 + K5 + K6 + 2, ?_⟩
      simp only [ancepslaw56_JournalFrame.f]
      rw [h0 _ (by omega)]
      simp only [Option.bind_some, if_true]
      rw [decide_eq_false (by omega)]
      simp only [ancepslaw56_JournalFrame.j0]
      rw [if_neg (by decide), h1 _ (by omega), h2 _ (by omega), if_pos hq]
      simp only [Option.bind_some, if_true]
      rw [h3 _ (by omega), h4 _ (by omega)]
      simp only [Option.bind_some, if_true]
      simp only [ancepslaw56_JournalFrame.j1]
      rw [if_neg (by decide), h5 _ (by omega)]
      simp only [Option.bind_some]
      rw [if_pos (by rw [B_size]), h6 _ (by omega)]
      rfl
    · refine ⟨K0 + K1 + K2 + K3 + K4 + 2, ?_⟩
      simp only [ancepslaw56_JournalFrame.f]
      rw [h0 _ (by omega)]
      simp only [Option.bind_some, if_true]
      rw [decide_eq_false (by omega)]
      simp only [ancepslaw56_JournalFrame.j0]
      rw [if_neg (by decide), h1 _ (by omega), h2 _ (by omega), if_neg hq]
      simp only [Option.bind_some, if_true]
      rw [h3 _ (by omega), h4 _ (by omega)]
      simp only [Option.bind_some, if_true]
      simp only [ancepslaw56_JournalFrame.j1]
      rw [if_pos (by decide), if_pos trivial, if_pos trivial, h3 _ (by omega), h4 _ (by omega)]
      simp
  · refine ⟨K0 + 1, ?_⟩
    simp only [ancepslaw56_JournalFrame.f]
    rw [h0 _ (by omega)]
    simp only [Option.bind_some, if_true]
    rw [decide_eq_true (by omega)]
    simp only [ancepslaw56_JournalFrame.j0]
    rw [if_pos trivial, h0 _ (by omega)]
    rfl


end Go.Proofs.Ytoepdplglablcaa.JP
namespace Go.Proofs.Ytoepdplglablcaa.Pure
open Go.Proofs.Ytoepdplglablcaa.J
theorem JournalFrame : ancepslaw56_JournalFrame.Pure := fun a0 _ => JP.law_frame a0
end Go.Proofs.Ytoepdplglablcaa.Pure
