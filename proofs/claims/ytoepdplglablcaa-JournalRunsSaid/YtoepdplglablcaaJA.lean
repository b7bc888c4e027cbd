/- What the journal's functions compute, in lists of bytes (strings of up to a million bytes). -/
import Derived.Test.YtoepdplglablcaaJx2
import Derived.Test.YtoepdplglablcaaJx3
import Derived.Test.YtoepdplglablcaaJx4
import Derived.Test.YtoepdplglablcaaJS
namespace Go.Proofs.Ytoepdplglablcaa.JP
open Go.RowKit Go.Proofs.YtoepdplglablcaaW.PrintWords Go.Proofs.YtoepdplglablcaaW.PrintLast Go.Proofs.YtoepdplglablcaaW.PrintMore
open Go.Proofs.Ytoepdplglablcaa.J Go.Proofs.Ytoepdplglablcaa.Sp
set_option linter.unusedVariables false

/-! ### strings as lists of bytes -/
def L (s : ByteArray) : List UInt8 := s.data.toList
def B (l : List UInt8) : ByteArray := ⟨l.toArray⟩
theorem L_B (l : List UInt8) : L (B l) = l := rfl
theorem B_L (s : ByteArray) : B (L s) = s := rfl
theorem B_inj {l m : List UInt8} (h : B l = B m) : l = m := by rw [← L_B l, ← L_B m, h]
theorem L_inj {s t : ByteArray} (h : L s = L t) : s = t := by rw [← B_L s, ← B_L t, h]
theorem L_len (s : ByteArray) : (L s).length = s.size := by simp [L]
theorem B_size (l : List UInt8) : (B l).size = l.length := by rw [← L_len, L_B]
theorem size_mt : (⟨#[]⟩ : ByteArray).size = 0 := rfl
theorem L_nil : L (⟨#[]⟩ : ByteArray) = [] := rfl
theorem L_app (s t : ByteArray) : L (s ++ t) = L s ++ L t := by simp [L]
theorem B_app (l m : List UInt8) : B l ++ B m = B (l ++ m) := L_inj (by rw [L_app]; rfl)
theorem L_ext (s : ByteArray) (i j : Nat) : L (s.extract i j) = ((L s).take j).drop i := by
  simp [L, ByteArray.data_extract, List.extract_eq_take_drop, List.drop_take]
theorem B_ext (l : List UInt8) (i j : Nat) : (B l).extract i j = B ((l.take j).drop i) := L_inj (by rw [L_ext]; rfl)
theorem bt_L (s : ByteArray) (i : Int) : bt s i = (((L s).getD i.toNat 0).toNat : Int) := by
  unfold bt
  split
  · rename_i h
    rw [List.getD_eq_getElem?_getD, List.getElem?_eq_getElem (by rw [L_len]; exact h)]
    rfl
  · rename_i h
    rw [List.getD_eq_getElem?_getD, List.getElem?_eq_none (by rw [L_len]; omega)]
    rfl
theorem L_str (xs : List Int) : L (strOfNums xs) = xs.map fun n => UInt8.ofNat n.toNat := rfl
theorem L_bytes (s : ByteArray) : L (strOfNums (bytesOf s)) = L s := by
  rw [L_str, bytesOf, List.map_map]
  conv => rhs; rw [← List.map_id (L s)]
  apply List.map_congr_left
  intro b _
  simp

/-! ### check sums -/
theorem sum_l (s : ByteArray) (hs : s.size ≤ 4611686018427387904) (d : Nat) : ∀ (h i k : Nat), i + d = s.size → d < k → h < 4294967296 →
    journal_sum.l0 k s (h : Int) (s.size : Int) (i : Int) = some ((chkFrom h ((L s).drop i) : Nat) : Int) := by
  induction d with
  | zero =>
    intro h i k hi hk hh
    obtain ⟨k, rfl⟩ : ∃ m, k = m + 1 := ⟨k - 1, by omega⟩
    simp only [journal_sum.l0]
    rw [if_neg (by omega), List.drop_of_length_le (by rw [L_len]; omega)]
    rfl
  | succ d ih =>
    intro h i k hi hk hh
    obtain ⟨k, rfl⟩ : ∃ m, k = m + 1 := ⟨k - 1, by omega⟩
    simp only [journal_sum.l0]
    rw [if_pos (by omega), if_pos (by omega), if_pos (by omega)]
    have hil : i < (L s).length := by rw [L_len]; omega
    have e1 : wrap64 ((i : Int) + 1) = ((i + 1 : Nat) : Int) := by unfold wrap64; omega
    have hb : bt s (i : Int) = ((L s)[i].toNat : Int) := by
      rw [bt_L, Int.toNat_natCast, List.getD_eq_getElem?_getD, List.getElem?_eq_getElem hil]; rfl
    have hlt := (L s)[i].toNat_lt
    have e2 : ((((h : Int) * 16777619 % 4294967296 + bt s (i : Int) % 4294967296) % 4294967296 + 1) % 4294967296) = (((h * 16777619 + (L s)[i].toNat + 1) % 4294967296 : Nat) : Int) := by
      rw [hb]; omega
    rw [e1, e2, ih _ _ _ (by omega) (by omega) (Nat.mod_lt _ (by decide)), List.drop_eq_getElem_cons hil, chkFrom_cons]

theorem sum_ev (s : ByteArray) (hs : s.size ≤ 4611686018427387904) : Ev (fun k => journal_sum.f k s) (chk (L s) : Int) :=
  ⟨s.size + 1, fun k hk => sum_l s hs s.size 7 0 k (by omega) (by omega) (by decide)⟩

theorem check_ev (s : ByteArray) (hs : s.size ≤ 4611686018427387904) : Ev (fun k => journal_Check.f k s) (chk (L s) : Int) := by
  obtain ⟨K, hK⟩ := sum_ev s hs
  refine ⟨K, fun k hk => ?_⟩
  have := chk_lt (L s)
  simp only [journal_Check.f, hK k hk, Option.bind_some]
  have e : wrap64 (chk (L s) : Int) = chk (L s) := by unfold wrap64; omega
  rw [e]

theorem u64_id (n : Int) (h0 : 0 ≤ n) (h1 : n < 18446744073709551616) : IntKind.u64.wrap n = n := by
  simp [IntKind.wrap, IntKind.bits, IntKind.signed]; omega

theorem rcheck_l (s : ByteArray) (hs : s.size ≤ 4611686018427387904) (d : Nat) : ∀ (h i k : Nat), i + d = s.size → d < k → h < 4294967296 →
    ancepsref56_Check.l0 k s (h : Int) (i : Int) = some ((chkFrom h ((L s).drop i) : Nat) : Int) := by
  induction d with
  | zero =>
    intro h i k hi hk hh
    obtain ⟨k, rfl⟩ : ∃ m, k = m + 1 := ⟨k - 1, by omega⟩
    simp only [ancepsref56_Check.l0]
    rw [if_neg (by omega), List.drop_of_length_le (by rw [L_len]; omega)]
    have e : wrap64 (h : Int) = h := by unfold wrap64; omega
    rw [e]; rfl
  | succ d ih =>
    intro h i k hi hk hh
    obtain ⟨k, rfl⟩ : ∃ m, k = m + 1 := ⟨k - 1, by omega⟩
    simp only [ancepsref56_Check.l0]
    rw [if_pos (by omega), if_pos (by omega)]
    have hil : i < (L s).length := by rw [L_len]; omega
    have e1 : wrap64 ((i : Int) + 1) = ((i + 1 : Nat) : Int) := by unfold wrap64; omega
    have hb : bt s (i : Int) = ((L s)[i].toNat : Int) := by
      rw [bt_L, Int.toNat_natCast, List.getD_eq_getElem?_getD, List.getElem?_eq_getElem hil]; rfl
    have hlt := (L s)[i].toNat_lt
    have e2 : Int.tmod (IntKind.u64.wrap (IntKind.u64.wrap (IntKind.u64.wrap ((h : Int) * 16777619) + IntKind.u64.wrap (bt s (i : Int))) + 1)) 4294967296 = (((h * 16777619 + (L s)[i].toNat + 1) % 4294967296 : Nat) : Int) := by
      rw [hb, u64_id ((h : Int) * 16777619) (by omega) (by omega), u64_id ((L s)[i].toNat : Int) (by omega) (by omega), u64_id ((h : Int) * 16777619 + ((L s)[i].toNat : Int)) (by omega) (by omega), u64_id ((h : Int) * 16777619 + ((L s)[i].toNat : Int) + 1) (by omega) (by omega), Int.tmod_eq_emod_of_nonneg (by omega)]
      omega
    rw [e1, e2, ih _ _ _ (by omega) (by omega) (Nat.mod_lt _ (by decide)), List.drop_eq_getElem_cons hil, chkFrom_cons]

theorem rcheck_ev (s : ByteArray) (hs : s.size ≤ 4611686018427387904) : Ev (fun k => ancepsref56_Check.f k s) (chk (L s) : Int) :=
  ⟨s.size + 1, fun k hk => rcheck_l s hs s.size 7 0 k (by omega) (by omega) (by decide)⟩

/-! ### frames -/
theorem u16_id (n : Int) (h0 : 0 ≤ n) (h1 : n < 65536) : IntKind.u16.wrap n = n := by
  simp [IntKind.wrap, IntKind.bits, IntKind.signed]; omega
theorem xor16 (n : Nat) (h : n < 65536) : Go.bits .xor .u16 IntKind.u16.max (n : Int) = 65535 - (n : Int) := by
  have e : Go.bits .xor .u16 IntKind.u16.max (n : Int) = IntKind.u16.wrap (((BitVec.ofInt 16 65535) ^^^ (BitVec.ofInt 16 (n : Int))).toNat : Int) := rfl
  rw [e, BitVec.ofInt_natCast]
  have e2 : BitVec.ofInt 16 65535 = BitVec.allOnes 16 := by decide
  rw [e2, BitVec.allOnes_xor, BitVec.toNat_not, BitVec.toNat_ofNat, Nat.mod_eq_of_lt (by simpa using h), u16_id _ (by omega) (by omega)]
  omega

theorem b8_of (n : Nat) : UInt8.ofNat n = b8 n := rfl
theorem b8_mod (n : Nat) : b8 (n % 256) = b8 n := by apply UInt8.toNat.inj; rw [b8_toNat, b8_toNat]; omega

theorem frame_ev (p : ByteArray) (hp : p.size ≤ 4611686018427387904) : Ev (fun k => journal_Frame.f k p) (if p.size ≤ 400 then (B (frame (L p)), 0) else (B [], 3)) := by
  obtain ⟨K, hK⟩ := sum_ev p hp
  replace hK : ∀ k, K ≤ k → journal_sum.f k p = some ((chk (L p) : Nat) : Int) := hK
  refine ⟨K, fun k hk => ?_⟩
  simp only [journal_Frame.f]
  by_cases h : p.size ≤ 400
  · rw [if_neg (by omega), if_pos h, hK k hk]
    simp only [Option.bind_some]
    rw [u16_id _ (by omega) (by omega), xor16 _ (by omega)]
    have hc := chk_lt (L p)
    rw [if_pos (by simp; omega)]
    congr 2
    apply L_inj
    rw [L_B, L_str, List.map_append, frame, L_len]
    have : (bytesOf p).map (fun n : Int => UInt8.ofNat n.toNat) = L p := L_bytes p
    rw [this]
    congr 1
    have q : ∀ (x : Int) (n : Nat), x.toNat % 256 = n % 256 → UInt8.ofNat x.toNat = b8 n := by
      intro x n hx; rw [b8_of]; apply UInt8.toNat.inj; rw [b8_toNat, b8_toNat]; exact hx
    simp only [List.map_cons, List.map_nil, head8]
    rw [q _ (p.size / 256) (by omega), q _ p.size (by omega), q _ ((65535 - p.size) / 256) (by omega), q _ (65535 - p.size) (by omega),
      q _ (chk (L p) / 16777216) (by omega), q _ (chk (L p) / 65536) (by omega), q _ (chk (L p) / 256) (by omega), q _ (chk (L p)) (by omega)]
  · rw [if_pos (by omega), if_neg h]; rfl

theorem number2 (n : Nat) (hn : n < 65536) (k : Nat) (hk : 3 ≤ k) : ancepsref56_number.f k (n : Int) 2 = some (B [b8 (n / 256), b8 n]) := by
  obtain ⟨k, rfl⟩ : ∃ m, k = m + 3 := ⟨k - 3, by omega⟩
  simp only [ancepsref56_number.f, ancepsref56_number.l0, Option.bind_some]
  have t1 : Int.tmod (n : Int) 256 = (n : Int) % 256 := Int.tmod_eq_emod_of_nonneg (by omega)
  have t2 : wrap64 (Int.tdiv (n : Int) 256) = ((n / 256 : Nat) : Int) := by rw [Int.tdiv_eq_ediv_of_nonneg (by omega)]; unfold wrap64; omega
  have t3 : Int.tmod ((n / 256 : Nat) : Int) 256 = ((n / 256 : Nat) : Int) % 256 := Int.tmod_eq_emod_of_nonneg (by omega)
  have w1 : wrap64 (0 + 1) = 1 := by unfold wrap64; omega
  have w2 : wrap64 (1 + 1) = 2 := by unfold wrap64; omega
  rw [t1, t2, t3, w1, w2]
  rw [if_pos (by decide), if_pos (by rw [strOfNums_size]; simp [size_mt]), if_pos (by decide), if_pos (by rw [strOfNums_size]; simp [strOfNums_size, size_mt]), if_neg (by decide)]
  congr 1
  apply L_inj
  rw [L_B, L_app, L_app, L_str, L_str, L_nil]
  have q : ∀ (x : Int) (n : Nat), x.toNat % 256 = n % 256 → UInt8.ofNat x.toNat = b8 n := by
    intro x n hx; rw [b8_of]; apply UInt8.toNat.inj; rw [b8_toNat, b8_toNat]; exact hx
  simp only [List.map_cons, List.map_nil]
  rw [q _ (n / 256) (by omega), q _ n (by omega)]
  rfl

theorem number4 (n : Nat) (hn : n < 4294967296) (k : Nat) (hk : 5 ≤ k) : ancepsref56_number.f k (n : Int) 4 = some (B [b8 (n / 16777216), b8 (n / 65536), b8 (n / 256), b8 n]) := by
  obtain ⟨k, rfl⟩ : ∃ m, k = m + 5 := ⟨k - 5, by omega⟩
  simp only [ancepsref56_number.f, ancepsref56_number.l0, Option.bind_some]
  have t1 : ∀ m : Nat, Int.tmod (m : Int) 256 = (m : Int) % 256 := fun m => Int.tmod_eq_emod_of_nonneg (by omega)
  have t2 : ∀ m : Nat, m < 4294967296 → wrap64 (Int.tdiv (m : Int) 256) = ((m / 256 : Nat) : Int) := by
    intro m hm; rw [Int.tdiv_eq_ediv_of_nonneg (by omega)]; unfold wrap64; omega
  have w1 : wrap64 (0 + 1) = 1 := by unfold wrap64; omega
  have w2 : wrap64 (1 + 1) = 2 := by unfold wrap64; omega
  have w3 : wrap64 (2 + 1) = 3 := by unfold wrap64; omega
  have w4 : wrap64 (3 + 1) = 4 := by unfold wrap64; omega
  rw [t2 n hn, t2 (n / 256) (by omega), t2 (n / 256 / 256) (by omega), t1, t1, t1, t1, w1, w2, w3, w4]
  rw [if_pos (by decide), if_pos (by rw [strOfNums_size]; simp [size_mt]), if_pos (by decide), if_pos (by rw [strOfNums_size]; simp [strOfNums_size, size_mt]), if_pos (by decide), if_pos (by rw [strOfNums_size]; simp [strOfNums_size, size_mt]), if_pos (by decide), if_pos (by rw [strOfNums_size]; simp [strOfNums_size, size_mt]), if_neg (by decide)]
  congr 1
  apply L_inj
  simp only [L_B, L_app, L_str, L_nil]
  have q : ∀ (x : Int) (n : Nat), x.toNat % 256 = n % 256 → UInt8.ofNat x.toNat = b8 n := by
    intro x n hx; rw [b8_of]; apply UInt8.toNat.inj; rw [b8_toNat, b8_toNat]; exact hx
  simp only [List.map_cons, List.map_nil]
  rw [q _ (n / 16777216) (by omega), q _ (n / 65536) (by omega), q _ (n / 256) (by omega), q _ n (by omega)]
  rfl

theorem rframe_ev (p : ByteArray) (hp : p.size ≤ 4611686018427387904) : Ev (fun k => ancepsref56_Frame.f k p) (if p.size ≤ 400 then (B (frame (L p)), 0) else (B [], 3)) := by
  obtain ⟨K, hK⟩ := rcheck_ev p hp
  replace hK : ∀ k, K ≤ k → ancepsref56_Check.f k p = some ((chk (L p) : Nat) : Int) := hK
  refine ⟨K + 5, fun k hk => ?_⟩
  simp only [ancepsref56_Frame.f]
  by_cases h : p.size ≤ 400
  · rw [if_neg (by omega), if_pos h, number2 p.size (by omega) k (by omega)]
    have e : wrap64 (65535 - (p.size : Int)) = ((65535 - p.size : Nat) : Int) := by unfold wrap64; omega
    simp only [Option.bind_some]
    rw [e, number2 (65535 - p.size) (by omega) k (by omega)]
    simp only [Option.bind_some]
    rw [if_pos (by simp [B_size]), hK k (by omega)]
    simp only [Option.bind_some]
    rw [number4 _ (chk_lt _) k (by omega)]
    simp only [Option.bind_some, B_app]
    rw [if_pos (by simp [B_size]), if_pos (by simp [B_size]; omega)]
    have e9 : B ([b8 (p.size / 256), b8 p.size] ++ [b8 ((65535 - p.size) / 256), b8 (65535 - p.size)] ++ [b8 (chk (L p) / 16777216), b8 (chk (L p) / 65536), b8 (chk (L p) / 256), b8 (chk (L p))]) ++ p = B (frame (L p)) := by
      apply L_inj
      rw [L_app, L_B, L_B, frame, L_len]
      rfl
    rw [e9]
  · rw [if_pos (by omega), if_neg h]; rfl
theorem wraps_u16 (n : Int) (h₀ : 0 ≤ n) (h₁ : n < 2 ^ 16) : IntKind.u16.wrap n = n := u16_id n h₀ (by omega)
theorem wraps_u32 (n : Int) (h₀ : 0 ≤ n) (h₁ : n < 2 ^ 32) : IntKind.u32.wrap n = n := by rw [IntKind.wrap_u32]; omega

theorem head8_of (l : List UInt8) (h : 8 ≤ l.length) : ∃ a b c d e f g i r, l = a :: b :: c :: d :: e :: f :: g :: i :: r := by
  rcases l with _ | ⟨a, _ | ⟨b, _ | ⟨c, _ | ⟨d, _ | ⟨e, _ | ⟨f, _ | ⟨g, _ | ⟨i, r⟩⟩⟩⟩⟩⟩⟩⟩ <;> first | exact ⟨_, _, _, _, _, _, _, _, _, rfl⟩ | (simp at h)

theorem two_lt (a b : UInt8) : two a b < 65536 := by unfold two; have := a.toNat_lt; have := b.toNat_lt; omega

theorem jtwo (a b : UInt8) (r : List UInt8) : journal_two.f (B (a :: b :: r)) = some ((two a b : Nat) : Int) := by
  have ha := a.toNat_lt
  have hb := b.toNat_lt
  simp only [journal_two.f, B_size, List.length_cons]
  rw [if_pos (by omega), if_pos (by omega), bt_L, bt_L, L_B]
  have e0 : (a :: b :: r).getD (0 : Int).toNat 0 = a := rfl
  have e1 : (a :: b :: r).getD (1 : Int).toNat 0 = b := rfl
  rw [e0, e1, u16_id (a.toNat : Int) (by omega) (by omega), u16_id (b.toNat : Int) (by omega) (by omega), u16_id ((a.toNat : Int) * 256) (by omega) (by omega)]
  rw [bits_join .u16 16 (by decide) wraps_u16 8 _ _ (by omega) (by omega) (by omega) (by omega) (by omega) (by omega)]
  congr 1

theorem value_small {i d v n : Nat} (hi : i + (d + 1) = n) (h4 : n ≤ 4) (hv : i = 0 ∧ v < 1 ∨ i = 1 ∧ v < 256 ∨ i = 2 ∧ v < 65536 ∨ i = 3 ∧ v < 16777216 ∨ 4 ≤ i) : v < 16777216 := by
  rcases hv with ⟨_, h⟩ | ⟨_, h⟩ | ⟨_, h⟩ | ⟨_, h⟩ | h
  · exact Nat.lt_of_lt_of_le h (by decide)
  · exact Nat.lt_of_lt_of_le h (by decide)
  · exact Nat.lt_of_lt_of_le h (by decide)
  · exact h
  · omega
theorem value_step {v c : Nat} (hv : v < 16777216) (hc : c < 2 ^ 8) : wrap64 (wrap64 ((v : Int) * 256) + wrap64 (c : Int)) = ((v * 256 + c : Nat) : Int) := by
  have e1 : wrap64 ((v : Int) * 256) = (v : Int) * 256 := by unfold wrap64; omega
  have e2 : wrap64 (c : Int) = (c : Int) := by unfold wrap64; omega
  rw [e1, e2]
  unfold wrap64; omega
theorem value_more {i d v c n : Nat} (hi : i + (d + 1) = n) (_h4 : n ≤ 4) (hc : c < 2 ^ 8) (hv : i = 0 ∧ v < 1 ∨ i = 1 ∧ v < 256 ∨ i = 2 ∧ v < 65536 ∨ i = 3 ∧ v < 16777216 ∨ 4 ≤ i) : i + 1 = 0 ∧ v * 256 + c < 1 ∨ i + 1 = 1 ∧ v * 256 + c < 256 ∨ i + 1 = 2 ∧ v * 256 + c < 65536 ∨ i + 1 = 3 ∧ v * 256 + c < 16777216 ∨ 4 ≤ i + 1 := by
  rcases hv with ⟨h1, h⟩ | ⟨h1, h⟩ | ⟨h1, h⟩ | ⟨h1, h⟩ | h <;> omega
theorem value_l (s : ByteArray) (d : Nat) : ∀ (v i k : Nat), i + d = s.size → d < k → s.size ≤ 4 → (i = 0 ∧ v < 1 ∨ i = 1 ∧ v < 256 ∨ i = 2 ∧ v < 65536 ∨ i = 3 ∧ v < 16777216 ∨ 4 ≤ i) →
    ancepsref56_value.l0 k s (v : Int) (i : Int) = some ((((L s).drop i).foldl (fun n c => n * 256 + c.toNat) v : Nat) : Int) := by
  induction d with
  | zero =>
    intro v i k hi hk h4 hv
    obtain ⟨k, rfl⟩ : ∃ m, k = m + 1 := ⟨k - 1, by omega⟩
    simp only [ancepsref56_value.l0]
    rw [if_neg (by omega), List.drop_of_length_le (by rw [L_len]; omega)]
    rfl
  | succ d ih =>
    intro v i k hi hk h4 hv
    obtain ⟨k, rfl⟩ : ∃ m, k = m + 1 := ⟨k - 1, by omega⟩
    simp only [ancepsref56_value.l0]
    rw [if_pos (by omega), if_pos (by omega)]
    have hil : i < (L s).length := by rw [L_len]; omega
    have e1 : wrap64 ((i : Int) + 1) = ((i + 1 : Nat) : Int) := by unfold wrap64; omega
    have hb : bt s (i : Int) = ((L s)[i].toNat : Int) := by
      rw [bt_L, Int.toNat_natCast, List.getD_eq_getElem?_getD, List.getElem?_eq_getElem hil]; rfl
    have hlt := (L s)[i].toNat_lt
    have hv2 : v < 16777216 := value_small hi h4 hv
    have e2 : wrap64 (wrap64 ((v : Int) * 256) + wrap64 (bt s (i : Int))) = ((v * 256 + (L s)[i].toNat : Nat) : Int) := by
      rw [hb]; exact value_step hv2 hlt
    rw [e1, e2, ih _ _ _ (by omega) (by omega) h4 (value_more hi h4 hlt hv), List.drop_eq_getElem_cons hil]
    rfl

theorem value2 (a b : UInt8) (k : Nat) (hk : 3 ≤ k) : ancepsref56_value.f k (B [a, b]) = some ((two a b : Nat) : Int) := by
  have := value_l (B [a, b]) 2 0 0 k rfl (by omega) (by rw [B_size]; exact Nat.le_of_ble_eq_true rfl) (by omega)
  rw [ancepsref56_value.f]
  rw [show ((0 : Nat) : Int) = 0 from rfl] at this
  rw [this, L_B]
  simp [two]

theorem value4 (a b c d : UInt8) (k : Nat) (hk : 5 ≤ k) : ancepsref56_value.f k (B [a, b, c, d]) = some ((four a b c d : Nat) : Int) := by
  have := value_l (B [a, b, c, d]) 4 0 0 k rfl (by omega) (by rw [B_size]; exact Nat.le_of_ble_eq_true rfl) (by omega)
  rw [ancepsref56_value.f]
  rw [show ((0 : Nat) : Int) = 0 from rfl] at this
  rw [this, L_B]
  simp [four]

/-- What 'next' and 'first' tell of a string. -/
def Tells (s : ByteArray) (r : ByteArray × Bool) : Prop := (∀ p, first (L s) = some p → r = (B p, true)) ∧ (first (L s) = none → r.2 = false)

theorem next_ev (s : ByteArray) (hs : s.size ≤ 4611686018427387904) : ∃ r, Tells s r ∧ Ev (fun k => journal_next.f k s) r := by
  by_cases h8 : s.size < 8
  · refine ⟨(⟨#[]⟩, false), ⟨fun p hp => ?_, fun _ => rfl⟩, 0, fun k _ => ?_⟩
    · rw [first_short (by rw [L_len]; exact h8)] at hp; cases hp
    · simp only [journal_next.f]; rw [if_pos (by omega)]
  obtain ⟨a, b, c, d, e, f, g, i, r, hl⟩ := head8_of (L s) (by rw [L_len]; omega)
  obtain rfl : s = B (a :: b :: c :: d :: e :: f :: g :: i :: r) := L_inj hl
  have hn := two_lt a b
  have hcd := two_lt c d
  have hsz : (B (a :: b :: c :: d :: e :: f :: g :: i :: r)).size = r.length + 8 := by rw [B_size]; simp
  have x2 : (B (a :: b :: c :: d :: e :: f :: g :: i :: r)).extract 2 (r.length + 8) = B (c :: d :: e :: f :: g :: i :: r) := by rw [B_ext, List.take_of_length_le (by simp)]; rfl
  have x4 : (B (a :: b :: c :: d :: e :: f :: g :: i :: r)).extract 4 (r.length + 8) = B (e :: f :: g :: i :: r) := by rw [B_ext, List.take_of_length_le (by simp)]; rfl
  have x6 : (B (a :: b :: c :: d :: e :: f :: g :: i :: r)).extract 6 (r.length + 8) = B (g :: i :: r) := by rw [B_ext, List.take_of_length_le (by simp)]; rfl
  have x8 : ∀ n, (B (a :: b :: c :: d :: e :: f :: g :: i :: r)).extract 8 (8 + n) = B (r.take n) := by
    intro n; rw [B_ext, Nat.add_comm 8 n]; rfl
  have hff := first.eq_1 a b c d e f g i r
  by_cases h1 : two a b ≤ 400 ∧ two c d = 65535 - two a b ∧ two a b ≤ r.length
  · obtain ⟨h1, h2, h3⟩ := h1
    have hps : (B (r.take (two a b))).size ≤ 4611686018427387904 := by rw [B_size, List.length_take]; omega
    obtain ⟨K, hK⟩ := sum_ev _ hps
    replace hK : ∀ k, K ≤ k → journal_sum.f k (B (r.take (two a b))) = some ((chk (r.take (two a b)) : Nat) : Int) := hK
    refine ⟨(B (r.take (two a b)), decide (four e f g i = chk (r.take (two a b)))), ⟨fun p hp => ?_, fun hnone => ?_⟩, K + 1, fun k hk => ?_⟩
    · rw [L_B, hff] at hp
      split at hp
      · rename_i hh; cases hp; simp [hh.2.2.2]
      · cases hp
    · rw [L_B, hff] at hnone
      split at hnone
      · cases hnone
      · rename_i hh; exact decide_eq_false fun h4 => hh ⟨h1, h2, h3, h4⟩
    · simp only [journal_next.f, hsz]
      rw [if_neg (by omega), jtwo]
      simp only [Option.bind_some]
      rw [if_neg (by omega), if_pos (by omega), x2, jtwo]
      simp only [Option.bind_some]
      rw [xor16 _ hn, if_pos (by omega)]
      have w1 : wrap64 (8 + wrap64 ((two a b : Nat) : Int)) = ((8 + two a b : Nat) : Int) := by unfold wrap64; omega
      rw [w1, decide_eq_false (by omega)]
      obtain ⟨k, rfl⟩ : ∃ m, k = m + 1 := ⟨k - 1, by omega⟩
      simp only [journal_next.j0, hsz, w1]
      rw [if_neg (by decide), if_pos (by omega), if_pos (by omega), if_pos (by omega), x4, jtwo]
      simp only [Option.bind_some]
      rw [if_pos (by omega), x6, jtwo]
      simp only [Option.bind_some, Int.toNat_natCast]
      rw [x8, hK k (by omega)]
      simp only [Option.bind_some]
      have hef := two_lt e f
      have hgi := two_lt g i
      have w2 : ((two e f : Nat) : Int) % 4294967296 * 65536 % 4294967296 = ((two e f * 65536 : Nat) : Int) := by omega
      have w3 : ((two g i : Nat) : Int) % 4294967296 = ((two g i : Nat) : Int) := by omega
      rw [w2, w3, bits_join .u32 32 (by decide) wraps_u32 16 _ _ (by omega) (by omega) (by omega) (by omega) (by omega) (by omega)]
      have w4 : ((two e f * 65536 : Nat) : Int) + ((two g i : Nat) : Int) = ((four e f g i : Nat) : Int) := by unfold two four; omega
      rw [w4]
      congr 2
      rw [Bool.eq_iff_iff]
      simp
      omega
  · refine ⟨(⟨#[]⟩, false), ⟨fun p hp => ?_, fun _ => rfl⟩, 1, fun k hk => ?_⟩
    · rw [L_B, hff] at hp
      split at hp
      · rename_i hh; exact absurd ⟨hh.1, hh.2.1, hh.2.2.1⟩ h1
      · cases hp
    · obtain ⟨k, rfl⟩ : ∃ m, k = m + 1 := ⟨k - 1, by omega⟩
      simp only [journal_next.f, hsz]
      rw [if_neg (by omega), jtwo]
      simp only [Option.bind_some]
      by_cases g1 : two a b ≤ 400
      · rw [if_neg (by omega), if_pos (by omega), x2, jtwo]
        simp only [Option.bind_some]
        rw [xor16 _ hn]
        have w1 : wrap64 (8 + wrap64 ((two a b : Nat) : Int)) = ((8 + two a b : Nat) : Int) := by unfold wrap64; omega
        by_cases g2 : two c d = 65535 - two a b
        · rw [if_pos (by omega), w1, decide_eq_true (by omega)]
          simp [journal_next.j0]
        · rw [if_neg (by omega)]
          simp [journal_next.j0]
      · rw [if_pos (by omega)]
        simp [journal_next.j0]

theorem first_ev (s : ByteArray) (hs : s.size ≤ 4611686018427387904) : ∃ r, Tells s r ∧ Ev (fun k => ancepsref56_first.f k s) r := by
  by_cases h8 : s.size < 8
  · refine ⟨(⟨#[]⟩, false), ⟨fun p hp => ?_, fun _ => rfl⟩, 0, fun k _ => ?_⟩
    · rw [first_short (by rw [L_len]; exact h8)] at hp; cases hp
    · simp only [ancepsref56_first.f]; rw [if_pos (by omega)]
  obtain ⟨a, b, c, d, e, f, g, i, r, hl⟩ := head8_of (L s) (by rw [L_len]; omega)
  obtain rfl : s = B (a :: b :: c :: d :: e :: f :: g :: i :: r) := L_inj hl
  have hn := two_lt a b
  have hcd := two_lt c d
  have hsz : (B (a :: b :: c :: d :: e :: f :: g :: i :: r)).size = r.length + 8 := by rw [B_size]; simp
  have x0 : (B (a :: b :: c :: d :: e :: f :: g :: i :: r)).extract 0 2 = B [a, b] := by rw [B_ext]; rfl
  have x2 : (B (a :: b :: c :: d :: e :: f :: g :: i :: r)).extract 2 4 = B [c, d] := by rw [B_ext]; rfl
  have x4 : (B (a :: b :: c :: d :: e :: f :: g :: i :: r)).extract 4 8 = B [e, f, g, i] := by rw [B_ext]; rfl
  have x8 : ∀ n, (B (a :: b :: c :: d :: e :: f :: g :: i :: r)).extract 8 (8 + n) = B (r.take n) := by
    intro n; rw [B_ext, Nat.add_comm 8 n]; rfl
  have hff := first.eq_1 a b c d e f g i r
  have p1 : (0 : Int) ≤ 2 := by decide
  have p2 : (2 : Int) ≤ 4 := by decide
  have p3 : (4 : Int) ≤ 8 := by decide
  by_cases h1 : two a b ≤ 400 ∧ two c d = 65535 - two a b ∧ two a b ≤ r.length
  · obtain ⟨h1, h2, h3⟩ := h1
    have hps : (B (r.take (two a b))).size ≤ 4611686018427387904 := by rw [B_size, List.length_take]; omega
    obtain ⟨K, hK⟩ := rcheck_ev _ hps
    replace hK : ∀ k, K ≤ k → ancepsref56_Check.f k (B (r.take (two a b))) = some ((chk (r.take (two a b)) : Nat) : Int) := hK
    refine ⟨(B (r.take (two a b)), decide (four e f g i = chk (r.take (two a b)))), ⟨fun p hp => ?_, fun hnone => ?_⟩, K + 6, fun k hk => ?_⟩
    · rw [L_B, hff] at hp
      split at hp
      · rename_i hh; cases hp; simp [hh.2.2.2]
      · cases hp
    · rw [L_B, hff] at hnone
      split at hnone
      · cases hnone
      · rename_i hh; exact decide_eq_false fun h4 => hh ⟨h1, h2, h3, h4⟩
    · simp only [ancepsref56_first.f, hsz]
      rw [if_neg (by omega), if_pos (by omega), if_pos (by omega), x0, value2 a b k (by omega)]
      simp only [Option.bind_some]
      rw [if_neg (by omega), if_pos (by omega), if_pos (by omega), x2, value2 c d k (by omega)]
      simp only [Option.bind_some]
      have w0 : wrap64 (65535 - ((two a b : Nat) : Int)) = 65535 - ((two a b : Nat) : Int) := by unfold wrap64; omega
      have w1 : wrap64 (8 + ((two a b : Nat) : Int)) = ((8 + two a b : Nat) : Int) := by unfold wrap64; omega
      rw [w0, if_pos (by omega), w1, decide_eq_false (by omega)]
      obtain ⟨k, rfl⟩ : ∃ m, k = m + 1 := ⟨k - 1, by omega⟩
      simp only [ancepsref56_first.j0, hsz, w1]
      rw [if_neg (by decide), if_pos (by omega), if_pos (by omega), if_pos (by omega), if_pos (by omega), x4, value4 e f g i k (by omega)]
      simp only [Option.bind_some, Int.toNat_natCast]
      rw [x8, hK k (by omega)]
      simp only [Option.bind_some]
      congr 2
      rw [Bool.eq_iff_iff]
      simp
      omega
  · refine ⟨(⟨#[]⟩, false), ⟨fun p hp => ?_, fun _ => rfl⟩, 6, fun k hk => ?_⟩
    · rw [L_B, hff] at hp
      split at hp
      · rename_i hh; exact absurd ⟨hh.1, hh.2.1, hh.2.2.1⟩ h1
      · cases hp
    · obtain ⟨k, rfl⟩ : ∃ m, k = m + 1 := ⟨k - 1, by omega⟩
      simp only [ancepsref56_first.f, hsz]
      rw [if_neg (by omega), if_pos (by omega), if_pos (by omega), x0, value2 a b _ (by omega)]
      simp only [Option.bind_some]
      by_cases g1 : two a b ≤ 400
      · rw [if_neg (by omega), if_pos (by omega), if_pos (by omega), x2, value2 c d _ (by omega)]
        simp only [Option.bind_some]
        have w0 : wrap64 (65535 - ((two a b : Nat) : Int)) = 65535 - ((two a b : Nat) : Int) := by unfold wrap64; omega
        have w1 : wrap64 (8 + ((two a b : Nat) : Int)) = ((8 + two a b : Nat) : Int) := by unfold wrap64; omega
        by_cases g2 : two c d = 65535 - two a b
        · rw [w0, if_pos (by omega), w1, decide_eq_true (by omega)]
          simp [ancepsref56_first.j0]
        · rw [w0, if_neg (by omega)]
          simp [ancepsref56_first.j0]
      · rw [if_pos (by omega)]
        simp [ancepsref56_first.j0]

theorem L_tail (s : ByteArray) (i : Nat) : L (s.extract i s.size) = (L s).drop i := by
  rw [L_ext, List.take_of_length_le (by rw [L_len]; exact Nat.le_refl _)]
theorem ext_size_le (s : ByteArray) (i j : Nat) : (s.extract i j).size ≤ s.size := by
  rw [← L_len, ← L_len, L_ext, List.length_drop, List.length_take]; omega

theorem Parsed.step {s p : List UInt8} (h : first s = some p) : ∃ r, s = frame p ++ r ∧ p.length ≤ 400 ∧ r = s.drop (8 + p.length) ∧ 8 + p.length ≤ s.length := by
  obtain ⟨h1, r, h2⟩ := first_some h
  refine ⟨r, h2, h1, ?_, ?_⟩
  · rw [h2, List.drop_append_of_le_length (by rw [frame_length]; exact Nat.le_refl _), List.drop_of_length_le (by rw [frame_length]; exact Nat.le_refl _)]; rfl
  · rw [h2, List.length_append, frame_length]; omega

theorem frames_l (s : ByteArray) (hs : s.size ≤ 1000000) (d : Nat) : ∀ (i : Nat) (out : List ByteArray), i ≤ s.size → s.size - i ≤ d → out.length ≤ i →
    ∃ l, Parsed ((L s).drop i) l ∧ Ev (fun k => journal_Frames.l0 k s out (i : Int)) (out ++ l.map B, ((i + (enc l).length : Nat) : Int)) := by
  induction d with
  | zero =>
    intro i out hi hd ho
    refine ⟨[], Parsed.nil_of (first_short (by rw [List.length_drop, L_len]; omega)), ?_⟩
    obtain ⟨r, ⟨_, hr⟩, K, hK⟩ := next_ev (s.extract i s.size) (Nat.le_trans (ext_size_le _ _ _) (by omega))
    refine ⟨K + 1, fun k hk => ?_⟩
    replace hK : ∀ k, K ≤ k → journal_next.f k (s.extract i s.size) = some r := hK
    obtain ⟨k, rfl⟩ : ∃ m, k = m + 1 := ⟨k - 1, by omega⟩
    have hr2 := hr (first_short (by rw [L_tail, List.length_drop, L_len]; omega))
    simp only [journal_Frames.l0]
    rw [if_pos (by omega), if_pos (by omega), Int.toNat_natCast, hK k (by omega)]
    simp only [Option.bind_some]
    rw [if_neg (by rw [hr2]; decide)]
    simp [enc]
  | succ d ih =>
    intro i out hi hd ho
    obtain ⟨r, ⟨hr1, hr⟩, K, hK⟩ := next_ev (s.extract i s.size) (Nat.le_trans (ext_size_le _ _ _) (by omega))
    replace hK : ∀ k, K ≤ k → journal_next.f k (s.extract i s.size) = some r := hK
    rw [L_tail] at hr1 hr
    cases hf : first ((L s).drop i) with
    | none =>
      refine ⟨[], Parsed.nil_of hf, K + 1, fun k hk => ?_⟩
      obtain ⟨k, rfl⟩ : ∃ m, k = m + 1 := ⟨k - 1, by omega⟩
      simp only [journal_Frames.l0]
      rw [if_pos (by omega), if_pos (by omega), Int.toNat_natCast, hK k (by omega)]
      simp only [Option.bind_some]
      rw [if_neg (by rw [hr hf]; decide)]
      simp [enc]
    | some p =>
      obtain ⟨t, ht, hp, htd, hle⟩ := Parsed.step hf
      rw [List.length_drop, L_len] at hle
      obtain ⟨l, hl, K2, hK2⟩ := ih (i + (8 + p.length)) (out ++ [B p]) (by omega) (by omega) (by simp; omega)
      replace hK2 : ∀ k, K2 ≤ k → journal_Frames.l0 k s (out ++ [B p]) ((i + (8 + p.length) : Nat) : Int) = some (out ++ [B p] ++ l.map B, ((i + (8 + p.length) + (enc l).length : Nat) : Int)) := hK2
      have hrp := hr1 p hf
      subst hrp
      refine ⟨p :: l, ?_, max K K2 + 1, fun k hk => ?_⟩
      · rw [ht]
        refine Parsed.cons hp ?_
        rw [htd, List.drop_drop]
        exact hl
      · obtain ⟨k, rfl⟩ : ∃ m, k = m + 1 := ⟨k - 1, by omega⟩
        simp only [journal_Frames.l0]
        rw [if_pos (by omega), if_pos (by omega), Int.toNat_natCast, hK k (by omega)]
        simp only [Option.bind_some, if_true]
        have e : wrap64 ((i : Int) + wrap64 (8 + ((B p).size : Int))) = ((i + (8 + p.length) : Nat) : Int) := by rw [B_size]; unfold wrap64; omega
        rw [if_pos (by omega), e, hK2 k (by omega)]
        congr 2
        · simp
        · rw [enc_cons, List.length_append, frame_length]; omega

theorem rframes_l (s : ByteArray) (hs : s.size ≤ 1000000) (d : Nat) : ∀ (i : Nat) (out : List ByteArray), i ≤ s.size → s.size - i ≤ d → out.length ≤ i →
    ∃ l, Parsed ((L s).drop i) l ∧ Ev (fun k => ancepsref56_Frames.l0 k s out (i : Int)) (out ++ l.map B, ((i + (enc l).length : Nat) : Int)) := by
  induction d with
  | zero =>
    intro i out hi hd ho
    refine ⟨[], Parsed.nil_of (first_short (by rw [List.length_drop, L_len]; omega)), ?_⟩
    obtain ⟨r, ⟨_, hr⟩, K, hK⟩ := first_ev (s.extract i s.size) (Nat.le_trans (ext_size_le _ _ _) (by omega))
    refine ⟨K + 1, fun k hk => ?_⟩
    replace hK : ∀ k, K ≤ k → ancepsref56_first.f k (s.extract i s.size) = some r := hK
    obtain ⟨k, rfl⟩ : ∃ m, k = m + 1 := ⟨k - 1, by omega⟩
    have hr2 := hr (first_short (by rw [L_tail, List.length_drop, L_len]; omega))
    simp only [ancepsref56_Frames.l0]
    rw [if_pos (by omega), if_pos (by omega), Int.toNat_natCast, hK k (by omega)]
    simp only [Option.bind_some]
    rw [if_neg (by rw [hr2]; decide)]
    simp [enc]
  | succ d ih =>
    intro i out hi hd ho
    obtain ⟨r, ⟨hr1, hr⟩, K, hK⟩ := first_ev (s.extract i s.size) (Nat.le_trans (ext_size_le _ _ _) (by omega))
    replace hK : ∀ k, K ≤ k → ancepsref56_first.f k (s.extract i s.size) = some r := hK
    rw [L_tail] at hr1 hr
    cases hf : first ((L s).drop i) with
    | none =>
      refine ⟨[], Parsed.nil_of hf, K + 1, fun k hk => ?_⟩
      obtain ⟨k, rfl⟩ : ∃ m, k = m + 1 := ⟨k - 1, by omega⟩
      simp only [ancepsref56_Frames.l0]
      rw [if_pos (by omega), if_pos (by omega), Int.toNat_natCast, hK k (by omega)]
      simp only [Option.bind_some]
      rw [if_neg (by rw [hr hf]; decide)]
      simp [enc]
    | some p =>
      obtain ⟨t, ht, hp, htd, hle⟩ := Parsed.step hf
      rw [List.length_drop, L_len] at hle
      obtain ⟨l, hl, K2, hK2⟩ := ih (i + (8 + p.length)) (out ++ [B p]) (by omega) (by omega) (by simp; omega)
      replace hK2 : ∀ k, K2 ≤ k → ancepsref56_Frames.l0 k s (out ++ [B p]) ((i + (8 + p.length) : Nat) : Int) = some (out ++ [B p] ++ l.map B, ((i + (8 + p.length) + (enc l).length : Nat) : Int)) := hK2
      have hrp := hr1 p hf
      subst hrp
      refine ⟨p :: l, ?_, max K K2 + 1, fun k hk => ?_⟩
      · rw [ht]
        refine Parsed.cons hp ?_
        rw [htd, List.drop_drop]
        exact hl
      · obtain ⟨k, rfl⟩ : ∃ m, k = m + 1 := ⟨k - 1, by omega⟩
        simp only [ancepsref56_Frames.l0]
        rw [if_pos (by omega), if_pos (by omega), Int.toNat_natCast, hK k (by omega)]
        simp only [Option.bind_some, if_true]
        have e : wrap64 (wrap64 ((i : Int) + 8) + ((B p).size : Int)) = ((i + (8 + p.length) : Nat) : Int) := by rw [B_size]; unfold wrap64; omega
        rw [if_pos (by omega), e, hK2 k (by omega)]
        congr 2
        · simp
        · rw [enc_cons, List.length_append, frame_length]; omega

theorem frames_ev (s : ByteArray) (hs : s.size ≤ 1000000) : ∃ l, Parsed (L s) l ∧ Ev (fun k => journal_Frames.f k s) (l.map B, ((enc l).length : Int)) := by
  obtain ⟨l, hl, h⟩ := frames_l s hs s.size 0 [] (by omega) (by omega) (by simp)
  exact ⟨l, hl, by simpa [journal_Frames.f] using h⟩
theorem rframes_ev (s : ByteArray) (hs : s.size ≤ 1000000) : ∃ l, Parsed (L s) l ∧ Ev (fun k => ancepsref56_Frames.f k s) (l.map B, ((enc l).length : Int)) := by
  obtain ⟨l, hl, h⟩ := rframes_l s hs s.size 0 [] (by omega) (by omega) (by simp)
  exact ⟨l, hl, by simpa [ancepsref56_Frames.f] using h⟩
/-- Where it is known what a string's right beginning is. -/
theorem frames_of {s : ByteArray} (hs : s.size ≤ 1000000) {l : List (List UInt8)} (h : Parsed (L s) l) : Ev (fun k => journal_Frames.f k s) (l.map B, ((enc l).length : Int)) := by
  obtain ⟨l', hl, he⟩ := frames_ev s hs
  rw [Parsed.unique h hl]; exact he
theorem rframes_of {s : ByteArray} (hs : s.size ≤ 1000000) {l : List (List UInt8)} (h : Parsed (L s) l) : Ev (fun k => ancepsref56_Frames.f k s) (l.map B, ((enc l).length : Int)) := by
  obtain ⟨l', hl, he⟩ := rframes_ev s hs
  rw [Parsed.unique h hl]; exact he

theorem read_of {a b : ByteArray} (hs : a.size + b.size ≤ 1000000) {l : List (List UInt8)} (h : Parsed (L a ++ L b) l) : Ev (fun k => journal_Read.f k a b) (l.map B) := by
  obtain ⟨K, hK⟩ := frames_of (s := a ++ b) (by rw [ByteArray.size_append]; exact hs) (by rw [L_app]; exact h)
  replace hK : ∀ k, K ≤ k → journal_Frames.f k (a ++ b) = some (l.map B, ((enc l).length : Int)) := hK
  refine ⟨K, fun k hk => ?_⟩
  simp only [journal_Read.f]
  rw [if_pos (by omega), hK k hk]
  rfl

/-! ### lists of strings -/
theorem equal_l (a : List ByteArray) (hl : a.length ≤ 1000000) (d : Nat) : ∀ (i k : Nat), i + d = a.length → d < k → slices_Equal_string_string.l0 k a a (a.length : Int) (i : Int) = some true := by
  induction d with
  | zero =>
    intro i k hi hk
    obtain ⟨k, rfl⟩ : ∃ m, k = m + 1 := ⟨k - 1, by omega⟩
    simp only [slices_Equal_string_string.l0]; rw [if_neg (by omega)]
  | succ d ih =>
    intro i k hi hk
    obtain ⟨k, rfl⟩ : ∃ m, k = m + 1 := ⟨k - 1, by omega⟩
    simp only [slices_Equal_string_string.l0]
    have e1 : wrap64 ((i : Int) + 1) = ((i + 1 : Nat) : Int) := by unfold wrap64; omega
    rw [if_pos (by omega), if_pos (by omega), if_pos (by omega), if_pos (by omega), if_pos trivial, e1, ih _ _ (by omega) (by omega)]
theorem equal_ev (a : List ByteArray) (hl : a.length ≤ 1000000) : Ev (fun k => slices_Equal_string_string.f k a a) true :=
  ⟨a.length + 1, fun k hk => by simp only [slices_Equal_string_string.f]; rw [if_pos trivial]; exact equal_l a hl a.length 0 k (by omega) (by omega)⟩

theorem enc_ge (l : List (List UInt8)) : l.length ≤ (enc l).length := by
  induction l with
  | nil => simp
  | cons p l ih => rw [enc_cons, List.length_append, frame_length]; simp; omega
theorem parsed_len {s : List UInt8} {l : List (List UInt8)} (h : Parsed s l) : l.length ≤ s.length ∧ (enc l).length ≤ s.length := by
  obtain ⟨_, r, rfl, _⟩ := h
  have := enc_ge l
  rw [List.length_append]; omega

/-! ### append -/
theorem append_ev (a b p : ByteArray) (ha : a.size ≤ 1000000) (hb : b.size ≤ 1000000) (hp : p.size ≤ 1000000) : Ev (fun k => journal_Append.f k a b p)
    (if p.size ≤ 400 then (if a.size + b.size + (8 + p.size) > 100000 then (B [], B [], 16) else (a, b ++ B (frame (L p)), 0)) else (B [], B [], 3)) := by
  obtain ⟨K, hK⟩ := frame_ev p (by omega)
  replace hK : ∀ k, K ≤ k → journal_Frame.f k p = some (if p.size ≤ 400 then (B (frame (L p)), 0) else (B [], 3)) := hK
  refine ⟨K, fun k hk => ?_⟩
  simp only [journal_Append.f]
  rw [hK k hk]
  simp only [Option.bind_some]
  by_cases h : p.size ≤ 400
  · rw [if_pos h, if_pos h]
    simp only [if_true]
    have hsz : (B (frame (L p))).size = 8 + p.size := by rw [B_size, frame_length, L_len]
    have e : wrap64 (wrap64 ((a.size : Int) + (b.size : Int)) + ((B (frame (L p))).size : Int)) = ((a.size + b.size + (8 + p.size) : Nat) : Int) := by rw [hsz]; unfold wrap64; omega
    rw [e]
    by_cases h2 : a.size + b.size + (8 + p.size) > 100000
    · rw [if_pos (by omega), if_pos h2]; rfl
    · rw [if_neg (by omega), if_neg h2, if_pos (by rw [hsz]; omega)]
  · rw [if_neg h, if_neg h]
    simp only
    rw [if_neg (by decide)]; rfl
/-! ### the examples of the chapter -/
theorem awake_ev : Ev (fun k => ancepslaw56_awake.f k) true := by
  obtain ⟨K1, h1⟩ := frame_ev (B []) (by rw [B_size]; decide)
  obtain ⟨K2, h2⟩ := append_ev (B []) (B []) (B [97]) (by rw [B_size]; decide) (by rw [B_size]; decide) (by rw [B_size]; decide)
  have hf : (frame (L (B [97]))).length = 9 := rfl
  obtain ⟨K3, h3⟩ := append_ev (B (frame [97])) (B []) (B [98]) (by rw [B_size]; decide) (by rw [B_size]; decide) (by rw [B_size]; decide)
  obtain ⟨K4, h4⟩ := check_ev (B []) (by rw [B_size]; decide)
  obtain ⟨K5, h5⟩ := check_ev (B [0]) (by rw [B_size]; decide)
  have hp : Parsed (L (B (frame [97] ++ (frame [98]).take 8)) ++ L (B [])) [[97]] := by
    rw [L_B, L_B, List.append_nil]
    exact Parsed.cons (by decide) (Parsed.nil_of (first_cut [98] (by decide) 8 (by decide)))
  obtain ⟨K6, h6⟩ := read_of (a := B (frame [97] ++ (frame [98]).take 8)) (b := B []) (by rw [B_size, B_size]; decide) hp
  obtain ⟨K7, h7⟩ := equal_ev [B [97]] (by decide)
  replace h1 : ∀ k, K1 ≤ k → journal_Frame.f k (⟨#[]⟩ : ByteArray) = some (B (frame []), 0) := h1
  replace h2 : ∀ k, K2 ≤ k → journal_Append.f k (⟨#[]⟩ : ByteArray) (⟨#[]⟩ : ByteArray) (⟨#[97]⟩ : ByteArray) = some (B [], B (frame [97]), 0) := h2
  replace h3 : ∀ k, K3 ≤ k → journal_Append.f k (B (frame [97])) (⟨#[]⟩ : ByteArray) (⟨#[98]⟩ : ByteArray) = some (B (frame [97]), B (frame [98]), 0) := h3
  replace h4 : ∀ k, K4 ≤ k → journal_Check.f k (⟨#[]⟩ : ByteArray) = some 7 := h4
  replace h5 : ∀ k, K5 ≤ k → journal_Check.f k (⟨#[0]⟩ : ByteArray) = some 117443334 := h5
  replace h6 : ∀ k, K6 ≤ k → journal_Read.f k (B (frame [97] ++ (frame [98]).take 8)) (⟨#[]⟩ : ByteArray) = some [B [97]] := h6
  replace h7 : ∀ k, K7 ≤ k → slices_Equal_string_string.f k [B [97]] [B [97]] = some true := h7
  refine ⟨K1 + K2 + K3 + K4 + K5 + K6 + K7 + 1, fun k hk => ?_⟩
  simp only [ancepslaw56_awake.f]
  rw [h1 k (by omega)]
  simp only [Option.bind_some, journal_New.f]
  rw [h2 k (by omega)]
  simp only [Option.bind_some, journal_Sync.f]
  have e0 : B [] ++ B (frame [97]) = B (frame [97]) := by rw [B_app]; rfl
  rw [e0, if_pos (by rw [B_size, B_size]; decide)]
  simp only [Option.bind_some]
  rw [h3 k (by omega)]
  simp only [Option.bind_some, if_true]
  have hc : journal_Crash.f (B (frame [97])) (B (frame [98])) 8 (-1) = some (B (frame [97] ++ (frame [98]).take 8), (⟨#[]⟩ : ByteArray), 0) := by
    simp only [journal_Crash.f]
    rw [if_pos (by simp only [B_size]; decide), if_neg (by simp only [B_size]; decide), if_neg (by decide), B_ext, B_app]; rfl
  rw [hc]
  simp only [Option.bind_some, if_true]
  obtain ⟨k, rfl⟩ : ∃ m, k = m + 1 := ⟨k - 1, by omega⟩
  have e1 : ((B (frame [])).toList != ([0, 0, 255, 255, 0, 0, 0, 7] : List UInt8)) = false := by rw [ByteArray.toList_eq]; decide
  simp only [ancepslaw56_awake.j0, e1]
  rw [if_neg (by decide), h4 k (by omega)]
  simp only [Option.bind_some, if_true]
  rw [h5 k (by omega)]
  simp only [Option.bind_some, if_true]
  rw [h6 k (by omega)]
  simp only [Option.bind_some]
  rw [show ([(⟨#[97]⟩ : ByteArray)]) = [B [97]] from rfl, h7 k (by omega)]
  rfl

end Go.Proofs.Ytoepdplglablcaa.JP
