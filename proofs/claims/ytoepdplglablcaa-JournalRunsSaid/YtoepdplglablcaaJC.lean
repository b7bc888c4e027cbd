/- What one turned bit does to a string of frames; where frames end. -/
import Derived.Test.YtoepdplglablcaaJx3
import Derived.Test.YtoepdplglablcaaJA
import Derived.Test.YtoepdplglablcaaJB
namespace Go.Proofs.Ytoepdplglablcaa.JP
open Go.RowKit Go.Proofs.YtoepdplglablcaaW.PrintWords Go.Proofs.YtoepdplglablcaaW.PrintLast Go.Proofs.YtoepdplglablcaaW.PrintMore
open Go.Proofs.Ytoepdplglablcaa.J Go.Proofs.Ytoepdplglablcaa.Sp
set_option linter.unusedVariables false

/-! ### one turned bit -/
theorem w64 (x : Int) (h : -9223372036854775808 ≤ x) (h' : x ≤ 9223372036854775807) : wrap64 x = x := by unfold wrap64; omega
theorem wpred (f : Nat) (h : 0 < f) (hf : f ≤ 1000000) : wrap64 ((f : Int) - 1) = ((f - 1 : Nat) : Int) := by rw [w64 _ (by omega) (by omega)]; omega
theorem wsucc (i : Nat) (hf : i ≤ 1000000) : wrap64 ((i : Int) + 1) = ((i + 1 : Nat) : Int) := by rw [w64 _ (by omega) (by omega)]; omega
theorem wdiv8 (t : Nat) (hf : t ≤ 1000000) : wrap64 (Int.tdiv (t : Int) 8) = ((t / 8 : Nat) : Int) := by rw [Int.tdiv_eq_ediv_of_nonneg (by omega), w64 _ (by omega) (by omega)]; omega
theorem xor8_ne (b : UInt8) (r : Nat) (hr : r < 8) : UInt8.ofNat (Go.bits .xor .u8 (b.toNat : Int) ((2 ^ r : Int) % 256)).toNat ≠ b := by
  have hb := b.toNat_lt
  have hm : ((2 ^ r : Int) % 256) = ((2 ^ r : Nat) : Int) := by
    rcases r with _ | _ | _ | _ | _ | _ | _ | _ | r <;> first | rfl | omega
  have e : Go.bits .xor .u8 (b.toNat : Int) ((2 ^ r : Nat) : Int) = IntKind.u8.wrap (((BitVec.ofInt 8 (b.toNat : Int)) ^^^ (BitVec.ofInt 8 ((2 ^ r : Nat) : Int))).toNat : Int) := rfl
  rw [hm, e, BitVec.ofInt_natCast, BitVec.ofInt_natCast, IntKind.wrap_u8]
  intro h
  have h2 := congrArg UInt8.toNat h
  have hx := (BitVec.ofNat 8 b.toNat ^^^ BitVec.ofNat 8 (2 ^ r)).isLt
  rw [show UInt8.ofNat = b8 from rfl, b8_toNat] at h2
  have h3 : (BitVec.ofNat 8 b.toNat ^^^ BitVec.ofNat 8 (2 ^ r)).toNat = (BitVec.ofNat 8 b.toNat).toNat := by
    rw [BitVec.toNat_ofNat]; omega
  have h4 := BitVec.eq_of_toNat_eq h3
  have h5 : BitVec.ofNat 8 b.toNat ^^^ (BitVec.ofNat 8 b.toNat ^^^ BitVec.ofNat 8 (2 ^ r)) = BitVec.ofNat 8 b.toNat ^^^ BitVec.ofNat 8 b.toNat := by rw [h4]
  rw [← BitVec.xor_assoc, BitVec.xor_self, BitVec.zero_xor] at h5
  have h6 := congrArg BitVec.toNat h5
  rw [BitVec.toNat_ofNat] at h6
  have : (2 ^ r) % 2 ^ 8 ≠ 0 := by
    rcases r with _ | _ | _ | _ | _ | _ | _ | _ | r <;> first | decide | omega
  exact this h6

theorem turn_flip (s : ByteArray) (t : Nat) (h : t / 8 < s.size) : Flip (L s) (L (turnBit s (t : Int))) (t / 8) := by
  have e1 : ((t : Int) / 8).toNat = t / 8 := by omega
  have e2 : ((t : Int) % 8).toNat = t % 8 := by omega
  refine ⟨by rw [L_len]; exact h, _, xor8_ne ((L s).getD (t / 8) 0) (t % 8) (by omega), ?_⟩
  rw [turnBit, L_str, e1, e2, List.map_set]
  have : (bytesOf s).map (fun n : Int => UInt8.ofNat n.toNat) = L s := L_bytes s
  rw [this, rd_bytesOf, bt_L, e1]

theorem fit_spec (l : List (List UInt8)) : ∀ (j i : Nat), i < l.length → ((enc (l.take (i + 1))).length ≤ j ↔ i < fit j l) := by
  induction l with
  | nil => intro j i hi; simp at hi
  | cons p l ih =>
    intro j i hi
    unfold fit
    rw [List.take_succ_cons, enc_cons, List.length_append, frame_length]
    cases i with
    | zero =>
      simp only [List.take_zero, enc, List.flatMap_nil, List.length_nil]
      split <;> omega
    | succ i =>
      have hi' : i < l.length := by simpa using hi
      have := ih (j - (8 + p.length)) i hi'
      split
      · rename_i h; omega
      · rename_i h; omega

/-! ### JournalTurn -/
theorem map_B (l : List ByteArray) (n : Nat) : ((l.map L).take n).map B = l.take n := by
  rw [← List.map_take, List.map_map]
  conv => rhs; rw [← List.map_id (l.take n)]
  apply List.map_congr_left
  intro a _
  rfl
theorem rdOf_get (l : List ByteArray) (i : Nat) (h : i < l.length) : rdOf ByteArray.empty l (i : Int) = l[i] := by
  unfold rdOf
  rw [Int.toNat_natCast, List.getD_eq_getElem?_getD, List.getElem?_eq_getElem h]; rfl
theorem take_snoc {α : Type} (l : List α) (i : Nat) (h : i < l.length) : l.take (i + 1) = l.take i ++ [l[i]] := by
  rw [List.take_add_one, List.getElem?_eq_getElem h]; rfl
theorem enc_le (l : List (List UInt8)) (h : Ok l) : (enc l).length ≤ 408 * l.length := by
  induction l with
  | nil => simp [enc]
  | cons p l ih => rw [enc_cons, List.length_append, frame_length]; have := ih h.tail; have := h.head; simp; omega


/-! ### JournalKeeps -/
/-- A crash that turns no bit. -/
theorem crash_cut (a b : ByteArray) (n : Nat) (ha : a.size ≤ 1000000) (hb : b.size ≤ 1000000) (hn : n ≤ b.size) : journal_Crash.f a b (n : Int) (-1) = some (a ++ b.extract 0 n, (⟨#[]⟩ : ByteArray), 0) := by
  simp only [journal_Crash.f]
  rw [if_pos ⟨by omega, by omega, by omega⟩, if_neg (by omega), if_neg (by omega), Int.toNat_natCast]
theorem B_nil_app (s : ByteArray) : (⟨#[]⟩ : ByteArray) ++ s = s := L_inj (by rw [L_app, L_nil]; rfl)
theorem ext_whole (s : ByteArray) : s.extract 0 s.size = s := L_inj (by rw [L_ext, List.take_of_length_le (by rw [L_len]; exact Nat.le_refl _)]; rfl)

theorem wadd1 (A s : Nat) (hA : A ≤ 1000000) (hs : s ≤ 1000000) : wrap64 (wrap64 ((A : Int) + 8) + (s : Int)) = ((A + (8 + s) : Nat) : Int) := by
  rw [w64 ((A : Int) + 8) (by omega) (by omega), w64 _ (by omega) (by omega)]; omega
theorem wadd2 (A s : Nat) (hA : A ≤ 1000000) (hs : s ≤ 1000000) : wrap64 ((A : Int) + wrap64 (8 + (s : Int))) = ((A + (8 + s) : Nat) : Int) := by
  rw [w64 (8 + (s : Int)) (by omega) (by omega), w64 _ (by omega) (by omega)]; omega

end Go.Proofs.Ytoepdplglablcaa.JP
