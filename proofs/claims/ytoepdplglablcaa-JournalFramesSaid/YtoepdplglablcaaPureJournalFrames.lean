/- Frames returns the payloads of the right beginning of any string, and its length: for every string of at most 2^47 - 4096 bytes. -/
import Derived.Test.YtoepdplglablcaaJx5
import Derived.Test.YtoepdplglablcaaJA
import Derived.Test.YtoepdplglablcaaJB
namespace Go.Proofs.Ytoepdplglablcaa.JP
open Go.RowKit Go.Proofs.YtoepdplglablcaaW.PrintWords Go.Proofs.YtoepdplglablcaaW.PrintLast Go.Proofs.YtoepdplglablcaaW.PrintMore
open Go.Proofs.Ytoepdplglablcaa.J Go.Proofs.Ytoepdplglablcaa.Sp
set_option linter.unusedVariables false
theorem law_frames (s : ByteArray) : ∃ k, ancepslaw56_JournalFrames.f k s = some true := by
  obtain ⟨K0, h0⟩ := awake_ev
  replace h0 : ∀ k, K0 ≤ k → ancepslaw56_awake.f k = some true := h0
  by_cases hp : s.size ≤ 20000
  · obtain ⟨l, hl, K1, h1⟩ := frames_ev s (by omega)
    obtain ⟨K2, h2⟩ := rframes_of (by omega) hl
    have hle := (parsed_len hl).1
    rw [L_len] at hle
    obtain ⟨K3, h3⟩ := same_ev (l.map B) (by rw [List.length_map]; omega)
    replace h1 : ∀ k, K1 ≤ k → journal_Frames.f k s = some (l.map B, ((enc l).length : Int)) := h1
    replace h2 : ∀ k, K2 ≤ k → ancepsref56_Frames.f k s = some (l.map B, ((enc l).length : Int)) := h2
    replace h3 : ∀ k, K3 ≤ k → ancepsref56_Same.f k (l.map B) (l.map B) = some true := h3
    refine ⟨K0 + K1 + K2 + K3 + 1, ?_⟩
    simp only [ancepslaw56_JournalFrames.f]
    rw [h0 _ (by omega)]
    simp only [Option.bind_some, if_true]
    rw [decide_eq_false (by omega)]
    simp only [ancepslaw56_JournalFrames.j0]
    rw [if_neg (by decide), h1 _ (by omega), h2 _ (by omega)]
    simp only [Option.bind_some, if_true]
    rw [h3 _ (by omega)]
    rfl
  · refine ⟨K0 + 1, ?_⟩
    simp only [ancepslaw56_JournalFrames.f]
    rw [h0 _ (by omega)]
    simp only [Option.bind_some, if_true]
    rw [decide_eq_true (by omega)]
    simp only [ancepslaw56_JournalFrames.j0]
    rw [if_pos trivial, h0 _ (by omega)]
    rfl


end Go.Proofs.Ytoepdplglablcaa.JP
namespace Go.Proofs.Ytoepdplglablcaa.Pure
open Go.Proofs.Ytoepdplglablcaa.J
theorem JournalFrames : ancepslaw56_JournalFrames.Pure := fun a0 _ => JP.law_frames a0
end Go.Proofs.Ytoepdplglablcaa.Pure
