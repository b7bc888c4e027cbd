/- More of what the journal's functions compute: lists of strings, appending, reading. -/
import Derived.Test.YtoepdplglablcaaJx5
import Derived.Test.YtoepdplglablcaaJA
namespace Go.Proofs.Ytoepdplglablcaa.JP
open Go.RowKit Go.Proofs.YtoepdplglablcaaW.PrintWords Go.Proofs.YtoepdplglablcaaW.PrintLast Go.Proofs.YtoepdplglablcaaW.PrintMore
open Go.Proofs.Ytoepdplglablcaa.J Go.Proofs.Ytoepdplglablcaa.Sp
set_option linter.unusedVariables false
theorem same_l (a : List ByteArray) (hl : a.length ≤ 1000000) (d : Nat) : ∀ (i k : Nat), i + d = a.length → d < k → ancepsref56_Same.l0 k a a (i : Int) = some true := by
  induction d with
  | zero =>
    intro i k hi hk
    obtain ⟨k, rfl⟩ : ∃ m, k = m + 1 := ⟨k - 1, by omega⟩
    simp only [ancepsref56_Same.l0]; rw [if_neg (by omega)]
  | succ d ih =>
    intro i k hi hk
    obtain ⟨k, rfl⟩ : ∃ m, k = m + 1 := ⟨k - 1, by omega⟩
    simp only [ancepsref56_Same.l0]
    have e1 : wrap64 ((i : Int) + 1) = ((i + 1 : Nat) : Int) := by unfold wrap64; omega
    rw [if_pos (by omega), if_pos (by omega), if_pos (by omega), if_pos trivial, e1, ih _ _ (by omega) (by omega)]
theorem same_ev (a : List ByteArray) (hl : a.length ≤ 1000000) : Ev (fun k => ancepsref56_Same.f k a a) true :=
  ⟨a.length + 1, fun k hk => by simp only [ancepsref56_Same.f]; rw [if_pos trivial]; exact same_l a hl a.length 0 k (by omega) (by omega)⟩
theorem rappend_ev (a b p : ByteArray) (ha : a.size ≤ 1000000) (hb : b.size ≤ 1000000) (hp : p.size ≤ 1000000) : Ev (fun k => ancepsref56_Append.f k a b p)
    (if p.size ≤ 400 then (if a.size + b.size + (8 + p.size) > 100000 then (B [], B [], 16) else (a, b ++ B (frame (L p)), 0)) else (B [], B [], 3)) := by
  obtain ⟨K, hK⟩ := rframe_ev p (by omega)
  replace hK : ∀ k, K ≤ k → ancepsref56_Frame.f k p = some (if p.size ≤ 400 then (B (frame (L p)), 0) else (B [], 3)) := hK
  refine ⟨K, fun k hk => ?_⟩
  simp only [ancepsref56_Append.f]
  rw [hK k hk]
  simp only [Option.bind_some]
  by_cases h : p.size ≤ 400
  · rw [if_pos h, if_pos h]
    simp only [if_true]
    have hsz : (B (frame (L p))).size = 8 + p.size := by rw [B_size, frame_length, L_len]
    have e : wrap64 (wrap64 ((a.size : Int) + (b.size : Int)) + ((B (frame (L p))).size : Int)) = ((a.size + b.size + (8 + p.size) : Nat) : Int) := by rw [hsz]; unfold wrap64; omega
    rw [e]
    by_cases h2 : a.size + b.size + (8 + p.size) > 100000
    · rw [if_pos (by omega), if_pos h2]; rfl
    · rw [if_neg (by omega), if_neg h2, if_pos (by rw [hsz]; omega)]
  · rw [if_neg h, if_neg h]
    simp only
    rw [if_neg (by decide)]; rfl


theorem few_eq (a b : ByteArray) : ancepsref56_Few.f a b = some (decide (a.size ≤ 101000 ∧ b.size ≤ 101000)) := by
  simp only [ancepsref56_Few.f]
  by_cases h : a.size ≤ 101000
  · rw [if_pos (by omega)]; congr 1; rw [decide_eq_decide]; constructor <;> intro h2 <;> omega
  · rw [if_neg (by omega)]; congr 1; symm; rw [decide_eq_false_iff_not]; omega

theorem rread_of {a b : ByteArray} (hs : a.size + b.size ≤ 1000000) {l : List (List UInt8)} (h : Parsed (L a ++ L b) l) : Ev (fun k => ancepsref56_Read.f k a b) (l.map B) := by
  obtain ⟨K, hK⟩ := rframes_of (s := a ++ b) (by rw [ByteArray.size_append]; exact hs) (by rw [L_app]; exact h)
  replace hK : ∀ k, K ≤ k → ancepsref56_Frames.f k (a ++ b) = some (l.map B, ((enc l).length : Int)) := hK
  refine ⟨K, fun k hk => ?_⟩
  simp only [ancepsref56_Read.f]
  rw [if_pos (by omega), hK k hk]
  rfl

/-- Every string has a right beginning. -/
theorem parsed_ex (s : List UInt8) (hs : s.length ≤ 1000000) : ∃ l, Parsed s l := by
  obtain ⟨l, hl, _⟩ := frames_ev (B s) (by rw [B_size]; exact hs)
  exact ⟨l, hl⟩


end Go.Proofs.Ytoepdplglablcaa.JP
