/- A part of the proof of the tied card of ProfileMerge (chapter 53): the law returns true whatever the input. -/
import Derived.Test.YtolenfcngomdfaaGreatDoorZU1
import Derived.Test.YtolenfcngomdfaaGreatDoorZU2
import Derived.Test.YtolenfcngomdfaaGreatDoorZU3
import Derived.Test.YtolenfcngomdfaaGreatDoorZS
import Derived.Test.YtolenfcngomdfaaGreatDoorZU6
set_option linter.unusedVariables false
set_option linter.unusedSimpArgs false
namespace Go.Proofs.YtolenfcngomdfaaGreatDoor.V
open Go.RowKit Go.Proofs.YtolenfcngomdfaaGreatDoorW.PrintWords Go.Proofs.YtolenfcngomdfaaGreatDoorW.PrintLast Go.Proofs.YtolenfcngomdfaaGreatDoorW.PrintMore
set_option linter.unusedVariables false
set_option linter.unusedSimpArgs false
set_option maxHeartbeats 8000000
set_option maxRecDepth 100000
def ancepsref53_Valid.l0 : Nat → Int → ByteArray → List (S72) → List ByteArray → List Int → Option (Int)
 | 0, _, _, _, _, _ => none
 | k + 1, x3, x160000, x160001, x160002, x160003 => if x3 < (x160001.length : Int) then (if 0 ≤ x3 then ((ancepsref01_Valid.f k ((rd_T72 x160001 x3).f0)).bind fun t163 => (if t163 = 0 then ((ancepsref05_IsName.f k ((rd_T72 x160001 x3).f1)).bind fun t165 => (if t165 = true then (ancepsref53_Valid.l0 k (wrap64 (x3 + 1)) x160000 x160001 x160002 x160003) else (some 2))) else (some t163))) else (none)) else ((ancepsref50_Valid.f k x160002 x160003).bind fun t161 => (some t161))
def ancepsref53_Valid.f (k : Nat) (a0_0 : ByteArray) (l0_1 : List (S72)) (l0_2 : List ByteArray) (l0_3 : List Int) : Option (Int) := (ancepsref05_IsName.f k a0_0).bind fun t160 => (if t160 = true then (if (l0_1.length : Int) > 200 then (some 3) else (ancepsref53_Valid.l0 k 0 a0_0 l0_1 l0_2 l0_3)) else (some 2))
theorem ancepsref53_Valid.calls (k : Nat) (a0_0 : ByteArray) (A0_1 : Option Addr) (c0_1 : Nat) (l0_1 : List (S72)) (A0_2 : Option Addr) (c0_2 : Nat) (l0_2 : List ByteArray) (A0_3 : Option Addr) (c0_3 : Nat) (l0_3 : List Int) (r : Int) (w : World) (hr0_1 : Kd.C k72 w A0_1 l0_1.length l0_1) (hc0_1 : l0_1.length ≤ c0_1) (hr0_2 : Kd.C Kd.string w A0_2 l0_2.length l0_2) (hc0_2 : l0_2.length ≤ c0_2) (hr0_3 : Kd.C (Kd.int .i64) w A0_3 l0_3.length l0_3) (hc0_3 : l0_3.length ≤ c0_3) (h : ancepsref53_Valid.f k a0_0 l0_1 l0_2 l0_3 = some r) :
  Calls Tryz.prog 51 #[.agg #[.string a0_0, .slice A0_1 l0_1.length c0_1, .slice A0_2 l0_2.length c0_2, .slice A0_3 l0_3.length c0_3]] w fun e w' => e = .returned (.int .i64 r) ∧ Below w.heap.size w w' := by
 have hu28 := Tryz.underlying28
 have hu72 := Tryz.underlying72
 have hu26 := Tryz.underlying26
 have HB := am (Below.refl w.heap.size w)
 obtain ⟨t, A, H⟩ := bE (am h)
 clear h
 have R0_1 := am hr0_1
 have R0_2 := am hr0_2
 have R0_3 := am hr0_3
 have C0_1 := am hc0_1
 have C0_2 := am hc0_2
 have C0_3 := am hc0_3
 clear hr0_1 hr0_2 hr0_3 hc0_1 hc0_2 hc0_3
 go_enter Tryz.func51, Tryz.ntmps51
 go_wp2_with (first | ((with_reducible refine gate_dst (N := 1) rfl ?_); refine bx 1 #[.string a0_0, .slice A0_1 l0_1.length c0_1, .slice A0_2 l0_2.length c0_2, .slice A0_3 l0_3.length c0_3] 28 ?_; intro g1 w1 b1 hb; have B1 := am b1; replace HB := bst hb; clear hb b1; obtain ⟨⟨z0, z1, z2, z3⟩, f0, f1, f2, f3⟩ := cf4 B1.out) | (go_at_call 65; refine (ancepsref05_IsName.calls k a0_0 t _ A.out).mono ?_; rintro e w2 ⟨rfl, ⟨nd, rfl⟩⟩))
 ·obtain rfl := sj (nT H (by assumption))
  go_ret
  exact ⟨rr, bel⟩
 ·obtain rfl := sj (iT (nF H (by assumption)) (by omega))
  go_ret
  exact ⟨rr, bel⟩
 ·replace H := iF (nF H (by assumption)) (by omega)
  have q : (!t) = false := by assumption
  obtain rfl : t = true := by simpa using q
  simp only [Bool.not_true]
  go_loopg [3] k (fun kq v3 w' => ∃ (x : Int), v3 = .int .i64 x ∧ Aside0 (ancepsref53_Valid.l0 kq x a0_0 l0_1 l0_2 l0_3 = some r) ∧ Aside0 (w'.heap[g1]? = some (.cells #[.string a0_0, .slice A0_1 l0_1.length c0_1, .slice A0_2 l0_2.length c0_2, .slice A0_3 l0_3.length c0_3] 28 (0, 0))) ∧ Aside0 (Below w.heap.size w w'))
  case atStart => exact ⟨0, rs, H, ⟨skb⟩, ⟨bel⟩⟩
  case round =>
   clear H z0 z1 z2 z3 f0 f1 f2 f3 q
   obtain ⟨x, rfl, H, B1, HB⟩ := hrel
   cases gk with
   | zero => exact absurd H.out (by simp [ancepsref53_Valid.l0])
   | succ k1 =>
    simp only [ancepsref53_Valid.l0] at H
    obtain ⟨⟨z0, z1, z2, z3⟩, f0, f1, f2, f3⟩ := cf4 B1.out
    by_cases c : x < (l0_1.length : Int)
    ·obtain ⟨p, H⟩ := jn (iT H c)
     obtain ⟨t, A2, H⟩ := bE H
     have cd := decide_eq_true c
     obtain ⟨ad, e0, hx0, hx1⟩ := at_T72 R0_1.out x p c
     cases e0
     have rx0 := am hx0
     have rx1 := am hx1
     replace hx0 := (HB.out.cell (World.block_lt_of_cell? w _ hx0)).trans hx0
     replace hx1 := (HB.out.cell (World.block_lt_of_cell? w _ hx1)).trans hx1
     replace p := eq_true p
     replace c := eq_true c
     go_wp2_with (first | (go_at_call 111; refine (ancepsref01_Valid.calls k1 _ t _ A2.out).mono ?_; rintro e w3 ⟨rfl, ⟨nd, rfl⟩⟩) | (go_at_call 65; obtain ⟨t2, A3, H⟩ := bE (bF H (by assumption)); refine (ancepsref05_IsName.calls k1 _ t2 _ A3.out).mono ?_; rintro e w' ⟨rfl, ⟨nd, rfl⟩⟩))
     ·obtain rfl := sj (bT H (by assumption))
      go_ret
      exact ⟨rr, bel⟩
     ·obtain rfl := sj (nT H (by assumption))
      go_ret
      exact ⟨rr, bel⟩
     ·go_roundg k1
      case measure => omega
      case rel => exact ⟨_, rs, nF H (by assumption), ⟨skb⟩, ⟨bel⟩⟩
    ·obtain ⟨t, A2, H⟩ := bE (iF H c)
     obtain rfl := sj H
     have cd := decide_eq_false c
     go_wp2_with (first | (go_at_call 112; refine (ancepsref50_Valid.calls k1 _ _ l0_2 _ _ l0_3 t _ rdc aso rdc aso A2.out).mono ?_; rintro e w3 ⟨rfl, hb⟩; replace HB := bst hb; clear hb))
     go_ret
     exact ⟨rr, bel⟩
def ancepsref53_both.f (k : Nat) (a0_0 : ByteArray) (l0_1 : List (S72)) (l0_2 : List ByteArray) (l0_3 : List Int) (a1_0 : ByteArray) (l1_1 : List (S72)) (l1_2 : List ByteArray) (l1_3 : List Int) : Option (Int) := (ancepsref53_Valid.f k a0_0 l0_1 l0_2 l0_3).bind fun t168 => (if t168 = 0 then ((ancepsref53_Valid.f k a1_0 l1_1 l1_2 l1_3).bind fun t169 => (some t169)) else (some t168))
theorem ancepsref53_both.calls (k : Nat) (a0_0 : ByteArray) (A0_1 : Option Addr) (c0_1 : Nat) (l0_1 : List (S72)) (A0_2 : Option Addr) (c0_2 : Nat) (l0_2 : List ByteArray) (A0_3 : Option Addr) (c0_3 : Nat) (l0_3 : List Int) (a1_0 : ByteArray) (A1_1 : Option Addr) (c1_1 : Nat) (l1_1 : List (S72)) (A1_2 : Option Addr) (c1_2 : Nat) (l1_2 : List ByteArray) (A1_3 : Option Addr) (c1_3 : Nat) (l1_3 : List Int) (r : Int) (w : World) (hr0_1 : Kd.C k72 w A0_1 l0_1.length l0_1) (hc0_1 : l0_1.length ≤ c0_1) (hr0_2 : Kd.C Kd.string w A0_2 l0_2.length l0_2) (hc0_2 : l0_2.length ≤ c0_2) (hr0_3 : Kd.C (Kd.int .i64) w A0_3 l0_3.length l0_3) (hc0_3 : l0_3.length ≤ c0_3) (hr1_1 : Kd.C k72 w A1_1 l1_1.length l1_1) (hc1_1 : l1_1.length ≤ c1_1) (hr1_2 : Kd.C Kd.string w A1_2 l1_2.length l1_2) (hc1_2 : l1_2.length ≤ c1_2) (hr1_3 : Kd.C (Kd.int .i64) w A1_3 l1_3.length l1_3) (hc1_3 : l1_3.length ≤ c1_3) (h : ancepsref53_both.f k a0_0 l0_1 l0_2 l0_3 a1_0 l1_1 l1_2 l1_3 = some r) :
  Calls Tryz.prog 26 #[.agg #[.string a0_0, .slice A0_1 l0_1.length c0_1, .slice A0_2 l0_2.length c0_2, .slice A0_3 l0_3.length c0_3], .agg #[.string a1_0, .slice A1_1 l1_1.length c1_1, .slice A1_2 l1_2.length c1_2, .slice A1_3 l1_3.length c1_3]] w fun e w' => e = .returned (.int .i64 r) ∧ Below w.heap.size w w' := by
 have hu28 := Tryz.underlying28
 have HB := am (Below.refl w.heap.size w)
 obtain ⟨t, A, H⟩ := bE (am h)
 clear h
 have R0_1 := am hr0_1
 have R0_2 := am hr0_2
 have R0_3 := am hr0_3
 have C0_1 := am hc0_1
 have C0_2 := am hc0_2
 have C0_3 := am hc0_3
 have R1_1 := am hr1_1
 have R1_2 := am hr1_2
 have R1_3 := am hr1_3
 have C1_1 := am hc1_1
 have C1_2 := am hc1_2
 have C1_3 := am hc1_3
 clear hr0_1 hr0_2 hr0_3 hc0_1 hc0_2 hc0_3 hr1_1 hr1_2 hr1_3 hc1_1 hc1_2 hc1_3
 go_enter Tryz.func26, Tryz.ntmps26
 go_wp2_with (first | ((with_reducible refine gate_dst (N := 2) rfl ?_); refine bx 2 #[.string a0_0, .slice A0_1 l0_1.length c0_1, .slice A0_2 l0_2.length c0_2, .slice A0_3 l0_3.length c0_3] 28 ?_; intro g1 w1 b1 hb; have B1 := am b1; replace HB := bst hb; clear hb b1) | ((with_reducible refine gate_dst (N := 3) rfl ?_); refine bx 3 #[.string a1_0, .slice A1_1 l1_1.length c1_1, .slice A1_2 l1_2.length c1_2, .slice A1_3 l1_3.length c1_3] 28 ?_; intro g2 w2 b2 hb; replace B1 := bbl g1 hb; have B2 := am b2; replace HB := bst hb; clear hb b2; obtain ⟨⟨z0, z1, z2, z3⟩, f0, f1, f2, f3⟩ := cf4 B1.out) | (go_at_call 51; (with_reducible refine (ancepsref53_Valid.calls k _ _ _ l0_1 _ _ l0_2 _ _ l0_3 t _ rdc aso rdc aso rdc aso A.out).mono ?_); rintro e w3 ⟨rfl, hb⟩; replace B2 := bbl g2 hb; replace HB := bst hb; clear hb z0 z1 z2 z3 f0 f1 f2 f3; obtain ⟨⟨z0, z1, z2, z3⟩, f0, f1, f2, f3⟩ := cf4 B2.out) | (go_at_call 51; obtain ⟨t2, A2, H⟩ := bE (bF H (by assumption)); refine (ancepsref53_Valid.calls k _ _ _ l1_1 _ _ l1_2 _ _ l1_3 t2 _ rdc aso rdc aso rdc aso A2.out).mono ?_; rintro e w4 ⟨rfl, hb⟩; replace HB := bst hb; clear hb))
 ·obtain rfl := sj (bT H (by assumption))
  go_ret
  exact ⟨rr, bel⟩
 ·obtain rfl := sj H
  go_ret
  exact ⟨rr, bel⟩
def ancepsref50_both.f (k : Nat) (l0_0 : List ByteArray) (l0_1 : List Int) (l1_0 : List ByteArray) (l1_1 : List Int) : Option (Int) := (ancepsref50_Valid.f k l0_0 l0_1).bind fun t172 => (if t172 = 0 then ((ancepsref50_Valid.f k l1_0 l1_1).bind fun t173 => (some t173)) else (some t172))
theorem ancepsref50_both.calls (k : Nat) (A0_0 : Option Addr) (c0_0 : Nat) (l0_0 : List ByteArray) (A0_1 : Option Addr) (c0_1 : Nat) (l0_1 : List Int) (A1_0 : Option Addr) (c1_0 : Nat) (l1_0 : List ByteArray) (A1_1 : Option Addr) (c1_1 : Nat) (l1_1 : List Int) (r : Int) (w : World) (hr0_0 : Kd.C Kd.string w A0_0 l0_0.length l0_0) (hc0_0 : l0_0.length ≤ c0_0) (hr0_1 : Kd.C (Kd.int .i64) w A0_1 l0_1.length l0_1) (hc0_1 : l0_1.length ≤ c0_1) (hr1_0 : Kd.C Kd.string w A1_0 l1_0.length l1_0) (hc1_0 : l1_0.length ≤ c1_0) (hr1_1 : Kd.C (Kd.int .i64) w A1_1 l1_1.length l1_1) (hc1_1 : l1_1.length ≤ c1_1) (h : ancepsref50_both.f k l0_0 l0_1 l1_0 l1_1 = some r) :
  Calls Tryz.prog 52 #[.agg #[.slice A0_0 l0_0.length c0_0, .slice A0_1 l0_1.length c0_1], .agg #[.slice A1_0 l1_0.length c1_0, .slice A1_1 l1_1.length c1_1]] w fun e w' => e = .returned (.int .i64 r) ∧ Below w.heap.size w w' := by
 have hu26 := Tryz.underlying26
 have HB := am (Below.refl w.heap.size w)
 obtain ⟨t, A, H⟩ := bE (am h)
 clear h
 have R0_0 := am hr0_0
 have R0_1 := am hr0_1
 have C0_0 := am hc0_0
 have C0_1 := am hc0_1
 have R1_0 := am hr1_0
 have R1_1 := am hr1_1
 have C1_0 := am hc1_0
 have C1_1 := am hc1_1
 clear hr0_0 hr0_1 hc0_0 hc0_1 hr1_0 hr1_1 hc1_0 hc1_1
 go_enter Tryz.func52, Tryz.ntmps52
 go_wp2_with (first | ((with_reducible refine gate_dst (N := 2) rfl ?_); refine bx 2 #[.slice A0_0 l0_0.length c0_0, .slice A0_1 l0_1.length c0_1] 26 ?_; intro g1 w1 b1 hb; have B1 := am b1; replace HB := bst hb; clear hb b1) | ((with_reducible refine gate_dst (N := 3) rfl ?_); refine bx 3 #[.slice A1_0 l1_0.length c1_0, .slice A1_1 l1_1.length c1_1] 26 ?_; intro g2 w2 b2 hb; replace B1 := bbl g1 hb; have B2 := am b2; replace HB := bst hb; clear hb b2; obtain ⟨⟨z0, z1⟩, f0, f1⟩ := cf2 B1.out) | (go_at_call 112; (with_reducible refine (ancepsref50_Valid.calls k _ _ l0_0 _ _ l0_1 t _ rdc aso rdc aso A.out).mono ?_); rintro e w3 ⟨rfl, hb⟩; replace B2 := bbl g2 hb; replace HB := bst hb; clear hb z0 z1 f0 f1; obtain ⟨⟨z0, z1⟩, f0, f1⟩ := cf2 B2.out) | (go_at_call 112; obtain ⟨t2, A2, H⟩ := bE (bF H (by assumption)); refine (ancepsref50_Valid.calls k _ _ l1_0 _ _ l1_1 t2 _ rdc aso rdc aso A2.out).mono ?_; rintro e w4 ⟨rfl, hb⟩; replace HB := bst hb; clear hb))
 ·obtain rfl := sj (bT H (by assumption))
  go_ret
  exact ⟨rr, bel⟩
 ·obtain rfl := sj H
  go_ret
  exact ⟨rr, bel⟩
end Go.Proofs.YtolenfcngomdfaaGreatDoor.V
namespace Go.Proofs.YtolenfcngomdfaaGreatDoor.V
open Go.RowKit Go.Proofs.YtolenfcngomdfaaGreatDoorW.PrintWords Go.Proofs.YtolenfcngomdfaaGreatDoorW.PrintLast Go.Proofs.YtolenfcngomdfaaGreatDoorW.PrintMore
set_option linter.unusedVariables false
set_option linter.unusedSimpArgs false
set_option maxHeartbeats 8000000
set_option maxRecDepth 100000
def ancepslaw53_own.f (a0_0 : ByteArray) (l0_1 : List (S72)) (l0_2 : List ByteArray) (l0_3 : List Int) : Option (ByteArray × (List (S72)) × List ByteArray × List Int) := (api_Verse_23.f l0_1).bind fun t367 => ((slices_Clone_string_string.f l0_2).bind fun t370 => ((slices_Clone_int_int.f l0_3).bind fun t373 => (some (a0_0, t367, t370, t373))))
def ancepslaw53_own.T2 : Bool × List (List Nat × List Nat) := (true, [([], []), ([0], [0]), ([1], [1]), ([2], [2]), ([], []), ([4], [4]), ([5], [5]), ([6, 3], [6]), ([3, 7], [3, 7]), ([0, 1, 2, 3, 4, 5, 6, 7, 8], []), ([9, 8, 7, 0, 1, 2, 3, 4, 5, 6, 7, 8], [8, 9])])
def ancepslaw53_own.B2 : List Nat := [0, 1, 3, 7, 0, 16, 48, 127, 255, 511, 1023]
theorem ancepslaw53_own.tab2 : rtab .any (opsOf Tryz.f7 2) = ancepslaw53_own.T2 := by kernel_rfl
theorem ancepslaw53_own.bits2 : waitsOk ancepslaw53_own.T2.2 ancepslaw53_own.B2 = true := by kernel_rfl
theorem ancepslaw53_own.calls (a0_0 : ByteArray) (A0_1 : Option Addr) (c0_1 : Nat) (l0_1 : List (S72)) (A0_2 : Option Addr) (c0_2 : Nat) (l0_2 : List ByteArray) (A0_3 : Option Addr) (c0_3 : Nat) (l0_3 : List Int) (r1 : ByteArray) (r2 : List (S72)) (r3 : List ByteArray) (r4 : List Int) (w : World) (hr0_1 : Kd.C k72 w A0_1 l0_1.length l0_1) (hc0_1 : l0_1.length ≤ c0_1) (hr0_2 : Kd.C Kd.string w A0_2 l0_2.length l0_2) (hc0_2 : l0_2.length ≤ c0_2) (hr0_3 : Kd.C (Kd.int .i64) w A0_3 l0_3.length l0_3) (hc0_3 : l0_3.length ≤ c0_3) (h : ancepslaw53_own.f a0_0 l0_1 l0_2 l0_3 = some (r1, r2, r3, r4)) :
  Calls Tryz.prog 7 #[.agg #[.string a0_0, .slice A0_1 l0_1.length c0_1, .slice A0_2 l0_2.length c0_2, .slice A0_3 l0_3.length c0_3]] w fun e w' => ∃ v1_ v2_ v3_ : Value, e = .returned (.agg #[.string r1, v1_, v2_, v3_]) ∧ Kd.R k72 72 w' w.heap.size (fun _ => True) v1_ r2 ∧ Kd.R Kd.string 9 w' w.heap.size (fun _ => True) v2_ r3 ∧ Kd.R (Kd.int .i64) 3 w' w.heap.size (fun _ => True) v3_ r4 ∧ Below w.heap.size w w' := by
 have hu28 := Tryz.underlying28
 have hu26 := Tryz.underlying26
 have HB := am (Below.refl w.heap.size w)
 obtain ⟨t1, A1, H⟩ := bE (am h)
 obtain ⟨t2, A2, H⟩ := bE H
 obtain ⟨t3, A3, H⟩ := bE H
 obtain ⟨rfl, rfl, rfl, rfl⟩ := sj4 H
 clear h H
 have R0_1 := am hr0_1
 have R0_2 := am hr0_2
 have R0_3 := am hr0_3
 have C0_1 := am hc0_1
 have C0_2 := am hc0_2
 have C0_3 := am hc0_3
 clear hr0_1 hr0_2 hr0_3 hc0_1 hc0_2 hc0_3
 go_enter Tryz.func7, Tryz.ntmps7
 go_wp2_with (first | ((with_reducible refine gate_dst (N := 1) rfl ?_); refine bxe 1 #[.string a0_0, .slice A0_1 l0_1.length c0_1, .slice A0_2 l0_2.length c0_2, .slice A0_3 l0_3.length c0_3] 28 ?_; intro g1 eg w1 b1 hb; have G1 := szl eg; have B1 := am b1; replace HB := bst hb; clear hb b1 eg) | ((with_reducible refine gate_dst (N := 2) rfl ?_); refine bxe 2 #[.string ⟨#[]⟩, .slice none 0 0, .slice none 0 0, .slice none 0 0] 28 ?_; intro g2 eg w2 b2 hb; have N12 := nel g1 eg; have N21 := ner g1 eg; have G2 := szl eg; replace B1 := bbl g1 hb; have B2 := am b2; replace HB := bst hb; clear hb b2 eg; have n1 := N12.out; have n2 := N21.out; obtain ⟨⟨z0, z1, z2, z3⟩, f0, f1, f2, f3⟩ := cf4 B1.out) | (go_at_call 23; refine (api_Verse_23.calls _ _ l0_1 t1 _ rdc aso A1.out).mono ?_; rintro e w3 ⟨v1, rfl, ho, hb⟩; have O1 := rlo ho; replace B1 := bbl g1 hb; replace B2 := bbl g2 hb; replace HB := bst hb; obtain ⟨a1, k1, rfl⟩ := Kd.R_slice O1.out; clear hb ho z0 z1 z2 z3 f0 f1 f2 f3; obtain ⟨⟨z0, z1, z2, z3⟩, f0, f1, f2, f3⟩ := cf4 B1.out))
 clear z0 z1 z2 z3 f0 f1 f2 f3
 refine stt 11 (fun w' => w'.cell? ⟨g1, 2, none⟩ = some (.slice A0_2 l0_2.length c0_2) ∧ w'.cell? ⟨g1, 3, none⟩ = some (.slice A0_3 l0_3.length c0_3)) [10] _ _ ancepslaw53_own.tab2 ancepslaw53_own.bits2 ⟨hc 2, hc 3⟩ fun w0 hb hS HT HW => ?_
 replace O1 := rbl O1 hb
 replace B1 := bbl g1 hb
 replace B2 := bbl g2 hb
 replace HB := bst hb
 clear hb
 refine pu 0 ?_
 refine pu 1 ?_
 refine pu 4 ?_
 refine pu 5 ?_
 refine tk 2 ?_
 refine tk 6 ?_
 refine cal 3 Tryz.func24 #[.slice A0_2 l0_2.length c0_2] ?_
 refine (slices_Clone_string_string.calls _ _ l0_2 t2 _ rdb aso A2.out).mono ?_
 rintro e w4 ⟨v2, rfl, ho, hb⟩
 have O2 := rlo ho
 replace O1 := rbl O1 hb
 replace B1 := bbl g1 hb
 replace B2 := bbl g2 hb
 replace HB := bst hb
 obtain ⟨a2, k2, rfl⟩ := Kd.R_slice O2.out
 clear hb ho hS
 refine ⟨_, rfl, ⟨hc 2, hc 3⟩, fun hS => nrm ?_⟩
 refine cal 7 Tryz.func25 #[.slice A0_3 l0_3.length c0_3] ?_
 refine (slices_Clone_int_int.calls _ _ l0_3 t3 _ rdb aso A3.out).mono ?_
 rintro e w5 ⟨v3, rfl, ho, hb⟩
 have O3 := rlo ho
 replace O1 := rbl O1 hb
 replace O2 := rbl O2 hb
 replace B1 := bbl g1 hb
 replace B2 := bbl g2 hb
 replace HB := bst hb
 obtain ⟨a3, k3, rfl⟩ := Kd.R_slice O3.out
 clear hb ho hS
 refine ⟨_, rfl, ⟨hc 2, hc 3⟩, fun hS => nrm ?_⟩
 clear hS
 obtain ⟨⟨z0, z1, z2, z3⟩, f0, f1, f2, f3⟩ := cf4 B1.out
 obtain ⟨⟨y0, y1, y2, y3⟩, e0, e1, e2, e3⟩ := cf4 B2.out
 refine pu 8 ?_
 refine pu 9 ?_
 refine lst 10 ?_
 go_wp2
 refine bodyPost_ret (results_cell_row rfl _ _ g2 28 #[.string a0_0, .slice a1 t1.length k1, .slice a2 t2.length k2, .slice a3 t3.length k3] (0, 0) _ rfl (set4 sb) Tryz.underlying28 rfl (by kernel_rfl)) rfl ?_
 exact ⟨_, _, _, rr, rx, rx, rx, bel⟩
end Go.Proofs.YtolenfcngomdfaaGreatDoor.V
namespace Go.Proofs.YtolenfcngomdfaaGreatDoor.V
open Go.RowKit Go.Proofs.YtolenfcngomdfaaGreatDoorW.PrintWords Go.Proofs.YtolenfcngomdfaaGreatDoorW.PrintLast Go.Proofs.YtolenfcngomdfaaGreatDoorW.PrintMore
set_option linter.unusedVariables false
set_option linter.unusedSimpArgs false
set_option maxHeartbeats 8000000
set_option maxRecDepth 100000
mutual
def ancepsref50_set.l0 : Nat → ByteArray → Int → Bool → Int → List ByteArray → List Int → List ByteArray → List Int → Option (List ByteArray × List Int)
 | 0, _, _, _, _, _, _, _, _ => none
 | k + 1, x1, x2, x8, x9, x175000, x175001, x177000, x177001 => if x9 < (x175000.length : Int) then (if x8 = true then (ancepsref50_set.j1 k x1 x2 x8 x9 false x175000 x175001 x177000 x177001) else (if 0 ≤ x9 then (ancepsref50_set.j1 k x1 x2 x8 x9 (!(Op.bytesLess ((rdOf ByteArray.empty x175000 x9).toList) x1.toList)) x175000 x175001 x177000 x177001) else (none))) else (if x8 = true then (some (x177000, x177001)) else (if x177000.length < 8796093022208 then (if x177001.length < 17592186044416 then (some ((x177000 ++ [x1]), (x177001 ++ [x2]))) else (none)) else (none)))
def ancepsref50_set.j1 : Nat → ByteArray → Int → Bool → Int → Bool → List ByteArray → List Int → List ByteArray → List Int → Option (List ByteArray × List Int)
 | 0, _, _, _, _, _, _, _, _, _ => none
 | k + 1, x1, x2, x8, x9, x29, x175000, x175001, x177000, x177001 => if x29 = true then (if x177000.length < 8796093022208 then ((some (x177000 ++ [x1] : List ByteArray)).bind fun y184 => (if x177001.length < 17592186044416 then ((some (x177001 ++ [x2] : List Int)).bind fun y187 => (if 0 ≤ x9 then (if x9 < (x175000.length : Int) then (if (rdOf ByteArray.empty x175000 x9).toList = x1.toList then (ancepsref50_set.l0 k x1 x2 true (wrap64 (x9 + 1)) x175000 x175001 y184 y187) else (if y184.length < 8796093022208 then (if x9 < (x175001.length : Int) then (if y187.length < 17592186044416 then (ancepsref50_set.l0 k x1 x2 true (wrap64 (x9 + 1)) x175000 x175001 (y184 ++ [rdOf ByteArray.empty x175000 x9]) (y187 ++ [rd x175001 x9])) else (none)) else (none)) else (none))) else (none)) else (none))) else (none))) else (none)) else (if 0 ≤ x9 then (if x9 < (x175000.length : Int) then (if (rdOf ByteArray.empty x175000 x9).toList = x1.toList then (ancepsref50_set.l0 k x1 x2 x8 (wrap64 (x9 + 1)) x175000 x175001 x177000 x177001) else (if x177000.length < 8796093022208 then (if x9 < (x175001.length : Int) then (if x177001.length < 17592186044416 then (ancepsref50_set.l0 k x1 x2 x8 (wrap64 (x9 + 1)) x175000 x175001 (x177000 ++ [rdOf ByteArray.empty x175000 x9]) (x177001 ++ [rd x175001 x9])) else (none)) else (none)) else (none))) else (none)) else (none))
end
def ancepsref50_set.f (k : Nat) (l0_0 : List ByteArray) (l0_1 : List Int) (a1 : ByteArray) (a2 : Int) : Option (List ByteArray × List Int) := ancepsref50_set.l0 k a1 a2 (a2 == 0) 0 l0_0 l0_1 ([] : List ByteArray) ([] : List Int)
def ancepsref50_set.t (k : Nat) (a1 : ByteArray) (a2 : Int) (dn : Bool) (i : Int) (l : List ByteArray) (c : List Int) (o : List ByteArray) (oc : List Int) : Option (List ByteArray × List Int) := if 0 ≤ i then (if i < (l.length : Int) then (if (rdOf ByteArray.empty l i).toList = a1.toList then (ancepsref50_set.l0 k a1 a2 dn (wrap64 (i + 1)) l c o oc) else (if o.length < 8796093022208 then (if i < (c.length : Int) then (if oc.length < 17592186044416 then (ancepsref50_set.l0 k a1 a2 dn (wrap64 (i + 1)) l c (o ++ [rdOf ByteArray.empty l i]) (oc ++ [rd c i])) else (none)) else (none)) else (none))) else (none)) else (none)
def ancepsref50_set.T11 : Bool × List (List Nat × List Nat) := (true, [([], []), ([0], [0]), ([], []), ([2], [2]), ([], []), ([3, 4], [3, 4]), ([5], [5]), ([6], [6]), ([1, 7], [1, 7]), ([0, 1, 2, 3, 4, 5, 6, 7, 8], []), ([9, 8, 8, 0, 1, 2, 3, 4, 5, 6, 7, 8], [8, 9])])
def ancepsref50_set.B11 : List Nat := [0, 1, 0, 4, 0, 28, 60, 124, 255, 511, 1023]
theorem ancepsref50_set.tab11 : rtab .any (opsOf Tryz.f53 11) = ancepsref50_set.T11 := by kernel_rfl
theorem ancepsref50_set.bits11 : waitsOk ancepsref50_set.T11.2 ancepsref50_set.B11 = true := by kernel_rfl
def ancepsref50_set.T12 : Bool × List (List Nat × List Nat) := (true, [([], []), ([0], [0]), ([], []), ([2], [2]), ([], []), ([3, 4], [3, 4]), ([5], [5]), ([6], [6]), ([1, 7], [1, 7]), ([0, 1, 2, 3, 4, 5, 6, 7, 8], []), ([9, 8, 8, 0, 1, 2, 3, 4, 5, 6, 7, 8], [8, 9])])
def ancepsref50_set.B12 : List Nat := [0, 1, 0, 4, 0, 28, 60, 124, 255, 511, 1023]
theorem ancepsref50_set.tab12 : rtab .any (opsOf Tryz.f53 12) = ancepsref50_set.T12 := by kernel_rfl
theorem ancepsref50_set.bits12 : waitsOk ancepsref50_set.T12.2 ancepsref50_set.B12 = true := by kernel_rfl
theorem ancepsref50_set.calls (k : Nat) (A0_0 : Option Addr) (c0_0 : Nat) (l0_0 : List ByteArray) (A0_1 : Option Addr) (c0_1 : Nat) (l0_1 : List Int) (a1 : ByteArray) (a2 : Int) (r1 : List ByteArray) (r2 : List Int) (w : World) (hr0_0 : Kd.C Kd.string w A0_0 l0_0.length l0_0) (hc0_0 : l0_0.length ≤ c0_0) (hr0_1 : Kd.C (Kd.int .i64) w A0_1 l0_1.length l0_1) (hc0_1 : l0_1.length ≤ c0_1) (h : ancepsref50_set.f k l0_0 l0_1 a1 a2 = some (r1, r2)) :
  Calls Tryz.prog 53 #[.agg #[.slice A0_0 l0_0.length c0_0, .slice A0_1 l0_1.length c0_1], .string a1, .int .i64 a2] w fun e w' => ∃ v0_ v1_ : Value, e = .returned (.agg #[v0_, v1_]) ∧ Kd.R Kd.string 9 w' w.heap.size (fun _ => True) v0_ r1 ∧ Kd.R (Kd.int .i64) 3 w' w.heap.size (fun _ => True) v1_ r2 ∧ Below w.heap.size w w' := by
 have hu26 := Tryz.underlying26
 have HB := am (Below.refl w.heap.size w)
 have H := am h
 clear h
 unfold ancepsref50_set.f at H
 have R0_0 := am hr0_0
 have R0_1 := am hr0_1
 have C0_0 := am hc0_0
 have C0_1 := am hc0_1
 clear hr0_0 hr0_1 hc0_0 hc0_1
 go_enter Tryz.func53, Tryz.ntmps53
 go_wp2_with (first | ((with_reducible refine gate_dst (N := 3) rfl ?_); refine bxe 3 #[.slice A0_0 l0_0.length c0_0, .slice A0_1 l0_1.length c0_1] 26 ?_; intro g3 eg w1 b hb; have G3 := szl eg; have B3 := am b; replace HB := bst hb; clear hb b eg) | ((with_reducible refine gate_dst (N := 6) rfl ?_); refine bxe 6 #[.slice none 0 0, .slice none 0 0] 26 ?_; intro g6 eg w1 b hb; have G6 := szl eg; have N3_6 := nel g3 eg; have N6_3 := ner g3 eg; replace B3 := bbl g3 hb; have B6 := am b; replace HB := bst hb; clear hb b eg) | ((with_reducible refine gate_dst (N := 7) rfl ?_); refine bxe 7 #[.slice none 0 0, .slice none 0 0] 26 ?_; intro g7 eg w1 b hb; have G7 := szl eg; have N3_7 := nel g3 eg; have N7_3 := ner g3 eg; have N6_7 := nel g6 eg; have N7_6 := ner g6 eg; replace B3 := bbl g3 hb; replace B6 := bbl g6 hb; have B7 := am b; replace HB := bst hb; clear hb b eg))
 go_loopg [8, 9] k (fun kq v8 v9 wc => ∃ (dn : Bool) (i : Int) (o : List ByteArray) (oc : List Int) (u0 u1 : Value), v8 = .bool dn ∧ v9 = .int .i64 i ∧ Aside0 (ancepsref50_set.l0 kq a1 a2 dn i l0_0 l0_1 o oc = some (r1, r2)) ∧ Aside0 (RS wc w u0 o) ∧ Aside0 (RI wc w u1 oc) ∧ Aside0 (wc.heap[g3]? = some (.cells #[.slice A0_0 l0_0.length c0_0, .slice A0_1 l0_1.length c0_1] 26 (0, 0))) ∧ Aside0 (wc.heap[g6]? = some (.cells #[.slice none 0 0, .slice none 0 0] 26 (0, 0))) ∧ Aside0 (wc.heap[g7]? = some (.cells #[u0, u1] 26 (0, 0))) ∧ Aside0 (Below w.heap.size w wc))
 case atStart => exact ⟨_, 0, [], [], .slice none 0 0, .slice none 0 0, rs, rs, H, ⟨rnil⟩, ⟨rnil⟩, ⟨sb⟩, ⟨sb⟩, ⟨sb⟩, ⟨bel⟩⟩
 case round =>
  have n1 := N3_7.out
  have n2 := N7_3.out
  have n3 := N6_7.out
  have n4 := N7_6.out
  clear H
  obtain ⟨dn, i, o, oc, u0, u1, rfl, rfl, H, O0, O1, B3, B6, B7, HB⟩ := hrel
  cases gk with
  | zero => exact absurd H.out (by simp [ancepsref50_set.l0])
  | succ k1 =>
   simp only [ancepsref50_set.l0] at H
   obtain ⟨⟨z0, z1⟩, f0, f1⟩ := cf2 B3.out
   obtain ⟨⟨y0, y1⟩, e0, e1⟩ := cf2 B7.out
   by_cases c : i < (l0_0.length : Int)
   ·have cd := decide_eq_true c
    replace H := iT H c
    go_upto_region 6 with (fail)
    go_cut [29] (fun v29 wc => ∃ b : Bool, v29 = .bool b ∧ Aside0 (ancepsref50_set.j1 k1 a1 a2 dn i b l0_0 l0_1 o oc = some (r1, r2)) ∧ wc = wr)
    case first =>
     cases dn
     ·replace H := jn (uF H rfl); obtain ⟨p, H⟩ := H
      obtain ⟨ad, e0, hx⟩ := Kd.at_string R0_0.out i p c
      cases e0
      replace hx := (HB.out.cell (World.block_lt_of_cell? w _ hx)).trans hx
      replace p := eq_true p
      replace c := eq_true c
      have hq := fun x y W => geqS (P := Tryz.prog) 9 x y W
      go_wp2
      go_meet
      case rel => exact ⟨_, rs, H, rfl⟩
     ·go_wp2
      go_meet
      case rel => exact ⟨_, rs, iT H trivial, rfl⟩
    case rest =>
     obtain ⟨b, rfl, H, rfl⟩ := hcut
     cases k1 with
     | zero => exact absurd H.out (by simp [ancepsref50_set.j1])
     | succ k2 =>
      simp only [ancepsref50_set.j1, Option.bind_some] at H
      go_upto_if 29 with (fail)
      go_cut [8] (fun v8 wc => ∃ (dn : Bool) (o : List ByteArray) (oc : List Int) (u0 u1 : Value), v8 = .bool dn ∧ Aside0 (ancepsref50_set.t k2 a1 a2 dn i l0_0 l0_1 o oc = some (r1, r2)) ∧ Aside0 (RS wc w u0 o) ∧ Aside0 (RI wc w u1 oc) ∧ Aside0 (wc.heap[g3]? = some (.cells #[.slice A0_0 l0_0.length c0_0, .slice A0_1 l0_1.length c0_1] 26 (0, 0))) ∧ Aside0 (wc.heap[g6]? = some (.cells #[.slice none 0 0, .slice none 0 0] 26 (0, 0))) ∧ Aside0 (wc.heap[g7]? = some (.cells #[u0, u1] 26 (0, 0))) ∧ Aside0 (Below w.heap.size w wc))
      case first =>
       cases b
       ·go_wp2
        go_meet
        case rel => exact ⟨dn, o, oc, u0, u1, rs, ⟨(uF H rfl).out⟩, ⟨rx⟩, ⟨rx⟩, ⟨sb⟩, ⟨sb⟩, ⟨sb⟩, ⟨bel⟩⟩
       ·replace H := jn (uT H rfl); obtain ⟨L0, H⟩ := H
        replace H := jn H; obtain ⟨L1, H⟩ := H
        replace L0 := am L0
        replace L1 := am L1
        obtain ⟨o2, Y0⟩ : ∃ x, Aside0 (x = o ++ [a1]) := ⟨_, ⟨rfl⟩⟩
        obtain ⟨oc2, Y1⟩ : ∃ x, Aside0 (x = oc ++ [a2]) := ⟨_, ⟨rfl⟩⟩
        rw [← Y0.out, ← Y1.out] at H
        go_wp2_with (first | ((with_reducible refine gate_builtin (b := .append) (xs := #[.tmp 31, .tmp 33]) rfl ?_); at_builtin; refine apS 31 33 O0 L0 ?_; intro v1 w1 ho HB1 hs hg; rw [← Y0.out] at ho; replace O1 := rgr O1 hs hg; replace B3 := bgr g3 hs hg; replace B6 := bgr g6 hs hg; replace B7 := bgr g7 hs hg; replace HB := HB1; replace O0 := ho; clear HB1 ho hs hg y0 y1 e0 e1; obtain ⟨p0, q0, rfl⟩ := Kd.R_slice O0.out; obtain ⟨⟨y0, y1⟩, e0, e1⟩ := cf2 B7.out) | ((with_reducible refine gate_builtin (b := .append) (xs := #[.tmp 37, .tmp 39]) rfl ?_); at_builtin; refine apI 37 39 O1 L1 ?_; intro v1 w1 ho HB1 hs hg; rw [← Y1.out] at ho; replace O0 := rgr O0 hs hg; replace B3 := bgr g3 hs hg; replace B6 := bgr g6 hs hg; replace B7 := nb0 (bgr g7 hs hg); replace HB := HB1; replace O1 := ho; clear HB1 ho hs hg y0 y1 e0 e1; obtain ⟨p1, q1, rfl⟩ := Kd.R_slice O1.out; obtain ⟨⟨y0, y1⟩, e0, e1⟩ := cf2 B7.out))
        go_meet
        case rel => exact ⟨true, o2, oc2, .slice p0 o2.length q0, .slice p1 oc2.length q1, rs, ⟨H.out⟩, ⟨rx⟩, ⟨rx⟩, ⟨sb⟩, ⟨sb⟩, nb1 ⟨sb⟩, ⟨bel⟩⟩
      case rest =>
       obtain ⟨dn, o, oc, u0, u1, rfl, H, O0, O1, B3, B6, B7, HB⟩ := hcut
       clear z0 z1 f0 f1 y0 y1 e0 e1
       obtain ⟨p0, q0, rfl⟩ := Kd.R_slice O0.out
       obtain ⟨p1, q1, rfl⟩ := Kd.R_slice O1.out
       obtain ⟨⟨z0, z1⟩, f0, f1⟩ := cf2 B3.out
       replace H := jn (am H.out : Aside0 (ancepsref50_set.t k2 a1 a2 dn i l0_0 l0_1 o oc = some (r1, r2))); obtain ⟨p, H⟩ := H
       replace H := jn H; obtain ⟨_, H⟩ := H
       obtain ⟨ad, e0, hx⟩ := Kd.at_string R0_0.out i p c
       cases e0
       have hw := am hx
       replace hx := (HB.out.cell (World.block_lt_of_cell? w _ hx)).trans hx
       by_cases e : (rdOf ByteArray.empty l0_0 i).toList = a1.toList
       ·replace H := iT H e
        have ed : ((rdOf ByteArray.empty l0_0 i).toList == a1.toList) = true := beq_iff_eq.mpr e
        replace p := eq_true p
        replace c := eq_true c
        go_wp2
        go_roundg k2
        case measure => omega
        case rel => exact ⟨dn, _, o, oc, _, _, rs, rs, H, ⟨rx⟩, ⟨rx⟩, ⟨sb⟩, ⟨sb⟩, ⟨sb⟩, ⟨bel⟩⟩
       ·replace H := iF H e
        have ed : ((rdOf ByteArray.empty l0_0 i).toList == a1.toList) = false := beq_eq_false_iff_ne.mpr e
        replace H := jn H; obtain ⟨L0, H⟩ := H
        replace H := jn H; obtain ⟨c2, H⟩ := H
        replace H := jn H; obtain ⟨L1, H⟩ := H
        replace L0 := am L0
        replace L1 := am L1
        obtain ⟨ad2, e1, hy⟩ := Kd.at_int R0_1.out i p c2
        cases e1
        have hv := am hy
        have pp := am p
        replace p := eq_true p
        replace c := eq_true c
        go_upto_region 11 with (fail)
        obtain ⟨o2, Y0⟩ : ∃ x, Aside0 (x = o ++ [rdOf ByteArray.empty l0_0 i]) := ⟨_, ⟨rfl⟩⟩
        obtain ⟨oc2, Y1⟩ : ∃ x, Aside0 (x = oc ++ [rd l0_1 i]) := ⟨_, ⟨rfl⟩⟩
        rw [← Y0.out, ← Y1.out] at H
        refine stt 11 (fun w' => w'.cell? ⟨g7, 0, none⟩ = some (.slice p0 o.length q0) ∧ w'.cell? ⟨g3, 0, none⟩ = some (.slice (some ad) l0_0.length c0_0) ∧ w'.cell? (ad.add i.toNat) = some (.string (rdOf ByteArray.empty l0_0 i))) [10] _ _ ancepsref50_set.tab11 ancepsref50_set.bits11 ⟨hc 0, hc 0, oc1 hw⟩ fun w1 hb hS HT HW => ?_
        replace O0 := rbl O0 hb
        replace O1 := rbl O1 hb
        replace B3 := bbl g3 hb
        replace B6 := bbl g6 hb
        replace B7 := bbl g7 hb
        replace HB := bst hb
        clear z0 z1 f0 f1 hx hy hb
        refine pu 0 ?_
        refine pu 2 ?_
        refine pu 4 ?_
        refine tk 1 ?_
        refine tk 3 ?_
        refine pu 5 ?_
        refine tk 6 ?_
        refine vlu 7 ?_
        refine ⟨⟨hc 0, hc 0, oc1 hw⟩, fun hS => nrm ?_⟩
        refine dpS 8 O0 L0 ?_
        intro v1 w2 ho HB1 hs hg
        rw [← Y0.out] at ho
        replace O1 := rgr O1 hs hg
        replace B3 := bgr g3 hs hg
        replace B6 := bgr g6 hs hg
        replace B7 := bgr g7 hs hg
        replace HB := HB1
        replace O0 := ho
        clear HB1 ho hs hg hS
        obtain ⟨p0, q0, rfl⟩ := Kd.R_slice O0.out
        refine ⟨⟨hc 0, hc 0, oc1 hw⟩, fun hS => nrm ?_⟩
        clear hS
        obtain ⟨⟨y0, y1⟩, e0, e1⟩ := cf2 B7.out
        refine pu 9 ?_
        refine lst 10 ?_
        go_upto_region 12 with (fail)
        clear y0 y1 e0 e1
        refine stt 11 (fun w' => w'.cell? ⟨g7, 1, none⟩ = some (.slice p1 oc.length q1) ∧ w'.cell? ⟨g3, 1, none⟩ = some (.slice (some ad2) l0_1.length c0_1) ∧ w'.cell? (ad2.add i.toNat) = some (.int .i64 (rd l0_1 i))) [10] _ _ ancepsref50_set.tab12 ancepsref50_set.bits12 ⟨hc 1, hc 1, oc1 hv⟩ fun w3 hb hS HT HW => ?_
        replace O0 := rbl O0 hb
        replace O1 := rbl O1 hb
        replace B3 := bbl g3 hb
        replace B6 := bbl g6 hb
        replace B7 := nb0 (bbl g7 hb)
        replace HB := bst hb
        replace c2 := eq_true c2
        clear hb
        refine pu 0 ?_
        refine pu 2 ?_
        refine pu 4 ?_
        refine tk 1 ?_
        refine tk 3 ?_
        refine pu 5 ?_
        refine tk 6 ?_
        refine vlu 7 ?_
        refine ⟨⟨hc 1, hc 1, oc1 hv⟩, fun hS => nrm ?_⟩
        refine dpI 8 O1 L1 ?_
        intro v1 w4 ho HB1 hs hg
        rw [← Y1.out] at ho
        replace O0 := rgr O0 hs hg
        replace B3 := bgr g3 hs hg
        replace B6 := bgr g6 hs hg
        replace B7 := bgr g7 hs hg
        replace HB := HB1
        replace O1 := ho
        clear HB1 ho hs hg hS
        obtain ⟨p1, q1, rfl⟩ := Kd.R_slice O1.out
        refine ⟨⟨hc 1, hc 1, oc1 hv⟩, fun hS => nrm ?_⟩
        clear hS
        obtain ⟨⟨y0, y1⟩, e0, e1⟩ := cf2 B7.out
        refine pu 9 ?_
        refine lst 10 ?_
        go_wp2
        go_roundg k2
        case measure => omega
        case rel => exact ⟨dn, _, o2, oc2, .slice p0 o2.length q0, .slice p1 oc2.length q1, rs, rs, H, ⟨rx⟩, ⟨rx⟩, ⟨sb⟩, ⟨sb⟩, nb1 ⟨sb⟩, ⟨bel⟩⟩
   ·replace H := iF H c
    obtain ⟨p0, q0, rfl⟩ := Kd.R_slice O0.out
    obtain ⟨p1, q1, rfl⟩ := Kd.R_slice O1.out
    have cd := decide_eq_false c
    obtain ⟨⟨x0, x1⟩, d0, d1⟩ := cf2 B6.out
    cases dn
    ·replace H := uF H rfl
     replace H := jn H; obtain ⟨L0, H⟩ := H
     replace H := jn H; obtain ⟨L1, H⟩ := H
     replace L0 := am L0
     replace L1 := am L1
     obtain ⟨o2, Y0⟩ : ∃ x, Aside0 (x = o ++ [a1]) := ⟨_, ⟨rfl⟩⟩
     obtain ⟨oc2, Y1⟩ : ∃ x, Aside0 (x = oc ++ [a2]) := ⟨_, ⟨rfl⟩⟩
     rw [← Y0.out, ← Y1.out] at H
     obtain ⟨rfl, rfl⟩ := sj2 H
     go_wp2_with (first | ((with_reducible refine gate_builtin (b := .append) (xs := #[.tmp 72, .tmp 74]) rfl ?_); at_builtin; refine apS 72 74 O0 L0 ?_; intro v1 w1 ho HB1 hs hg; rw [← Y0.out] at ho; replace O1 := rgr O1 hs hg; replace B3 := bgr g3 hs hg; replace B6 := bgr g6 hs hg; replace B7 := bgr g7 hs hg; replace HB := HB1; replace O0 := ho; clear HB1 ho hs hg y0 y1 e0 e1; obtain ⟨p0, q0, rfl⟩ := Kd.R_slice O0.out; obtain ⟨⟨y0, y1⟩, e0, e1⟩ := cf2 B7.out; clear x0 x1 d0 d1; obtain ⟨⟨x0, x1⟩, d0, d1⟩ := cf2 B6.out) | ((with_reducible refine gate_builtin (b := .append) (xs := #[.tmp 78, .tmp 80]) rfl ?_); at_builtin; refine apI 78 80 O1 L1 ?_; intro v1 w1 ho HB1 hs hg; rw [← Y1.out] at ho; replace O0 := rgr O0 hs hg; replace B3 := bgr g3 hs hg; replace B6 := bgr g6 hs hg; replace B7 := nb0 (bgr g7 hs hg); replace HB := HB1; replace O1 := ho; clear HB1 ho hs hg y0 y1 e0 e1; obtain ⟨p1, q1, rfl⟩ := Kd.R_slice O1.out; obtain ⟨⟨y0, y1⟩, e0, e1⟩ := cf2 B7.out; clear x0 x1 d0 d1; obtain ⟨⟨x0, x1⟩, d0, d1⟩ := cf2 B6.out))
     refine bodyPost_ret (results_cell_row rfl _ _ g6 26 #[.slice p0 o2.length q0, .slice p1 oc2.length q1] (0, 0) _ rfl (set2 sb) Tryz.underlying26 rfl (by kernel_rfl)) rfl ?_
     exact ⟨_, _, rr, rx, rx, bel⟩
    ·obtain ⟨rfl, rfl⟩ := sj2 (uT H rfl)
     go_wp2
     refine bodyPost_ret (results_cell_row rfl _ _ g6 26 #[.slice p0 o.length q0, .slice p1 oc.length q1] (0, 0) _ rfl (set2 sb) Tryz.underlying26 rfl (by kernel_rfl)) rfl ?_
     exact ⟨_, _, rr, rx, rx, bel⟩
end Go.Proofs.YtolenfcngomdfaaGreatDoor.V
namespace Go.Proofs.YtolenfcngomdfaaGreatDoor.V
open Go.RowKit Go.Proofs.YtolenfcngomdfaaGreatDoorW.PrintWords Go.Proofs.YtolenfcngomdfaaGreatDoorW.PrintLast Go.Proofs.YtolenfcngomdfaaGreatDoorW.PrintMore
set_option linter.unusedVariables false
set_option linter.unusedSimpArgs false
set_option maxHeartbeats 8000000
set_option maxRecDepth 100000
def ancepsref50_Merge.l0 : Nat → Int → List ByteArray → List Int → List ByteArray → List Int → List ByteArray → List Int → Option (List ByteArray × List Int × Int)
 | 0, _, _, _, _, _, _, _ => none
 | k + 1, x8, x212000, x212001, x213000, x213001, x222000, x222001 => if x8 < (x213000.length : Int) then (if 0 ≤ x8 then ((ancepsref50_Get.f k x212000 x212001 (rdOf ByteArray.empty x213000 x8)).bind fun t223 => (if x8 < (x213001.length : Int) then (if (wrap64 (t223 + (rd x213001 x8))) > 1000000 then (some (([] : List ByteArray), ([] : List Int), 3)) else ((ancepsref50_set.f k x222000 x222001 (rdOf ByteArray.empty x213000 x8) (wrap64 (t223 + (rd x213001 x8)))).bind fun bt226 => (ancepsref50_Merge.l0 k (wrap64 (x8 + 1)) x212000 x212001 x213000 x213001 bt226.1 bt226.2))) else (none))) else (none)) else (if (x222000.length : Int) > 2000 then (some (([] : List ByteArray), ([] : List Int), 3)) else (some (x222000, x222001, 0)))
def ancepsref50_Merge.f (k : Nat) (l0_0 : List ByteArray) (l0_1 : List Int) (l1_0 : List ByteArray) (l1_1 : List Int) : Option (List ByteArray × List Int × Int) := (ancepsref50_both.f k l0_0 l0_1 l1_0 l1_1).bind fun t214 => (if t214 = 0 then ((ancepsref50_set.f k l0_0 l0_1 (⟨#[]⟩ : ByteArray) 0).bind fun bt215 => (ancepsref50_Merge.l0 k 0 l0_0 l0_1 l1_0 l1_1 bt215.1 bt215.2)) else (some (([] : List ByteArray), ([] : List Int), t214)))
def ancepsref50_Merge.T8 : Bool × List (List Nat × List Nat) := (true, [([], []), ([], []), ([1], [1]), ([], []), ([2, 3], [2, 3]), ([4], [4]), ([0, 5], [0, 5]), ([], []), ([7], [7]), ([], []), ([8, 9], [8, 9]), ([10], [10]), ([6, 11], [6, 11]), ([12, 6, 0, 1, 2, 3, 4, 5, 6, 7, 8, 9, 10, 11, 12], [12])])
def ancepsref50_Merge.B8 : List Nat := [0, 0, 2, 0, 14, 30, 63, 0, 128, 0, 896, 1920, 4095, 8191]
theorem ancepsref50_Merge.tab8 : rtab .any (opsOf Tryz.f27 8) = ancepsref50_Merge.T8 := by kernel_rfl
theorem ancepsref50_Merge.bits8 : waitsOk ancepsref50_Merge.T8.2 ancepsref50_Merge.B8 = true := by kernel_rfl
def ancepsref50_Merge.T11 : Bool × List (List Nat × List Nat) := (true, [([], []), ([], []), ([1], [1]), ([], []), ([2, 3], [2, 3]), ([4], [4]), ([], []), ([0, 5, 6], [0, 5, 6]), ([7, 7, 0, 1, 2, 3, 4, 5, 6, 7], [7])])
def ancepsref50_Merge.B11 : List Nat := [0, 0, 2, 0, 14, 30, 0, 127, 255]
theorem ancepsref50_Merge.tab11 : rtab .any (opsOf Tryz.f27 11) = ancepsref50_Merge.T11 := by kernel_rfl
theorem ancepsref50_Merge.bits11 : waitsOk ancepsref50_Merge.T11.2 ancepsref50_Merge.B11 = true := by kernel_rfl
theorem ancepsref50_Merge.calls (k : Nat) (A0_0 : Option Addr) (c0_0 : Nat) (l0_0 : List ByteArray) (A0_1 : Option Addr) (c0_1 : Nat) (l0_1 : List Int) (A1_0 : Option Addr) (c1_0 : Nat) (l1_0 : List ByteArray) (A1_1 : Option Addr) (c1_1 : Nat) (l1_1 : List Int) (r1 : List ByteArray) (r2 : List Int) (r3 : Int) (w : World) (hr0_0 : Kd.C Kd.string w A0_0 l0_0.length l0_0) (hc0_0 : l0_0.length ≤ c0_0) (hr0_1 : Kd.C (Kd.int .i64) w A0_1 l0_1.length l0_1) (hc0_1 : l0_1.length ≤ c0_1) (hr1_0 : Kd.C Kd.string w A1_0 l1_0.length l1_0) (hc1_0 : l1_0.length ≤ c1_0) (hr1_1 : Kd.C (Kd.int .i64) w A1_1 l1_1.length l1_1) (hc1_1 : l1_1.length ≤ c1_1) (h : ancepsref50_Merge.f k l0_0 l0_1 l1_0 l1_1 = some (r1, r2, r3)) :
  Calls Tryz.prog 27 #[.agg #[.slice A0_0 l0_0.length c0_0, .slice A0_1 l0_1.length c0_1], .agg #[.slice A1_0 l1_0.length c1_0, .slice A1_1 l1_1.length c1_1]] w fun e w' => ∃ v0_ v1_ : Value, e = .returned (.tuple #[.agg #[v0_, v1_], .int .i64 r3]) ∧ Kd.R Kd.string 9 w' w.heap.size (fun _ => True) v0_ r1 ∧ Kd.R (Kd.int .i64) 3 w' w.heap.size (fun _ => True) v1_ r2 ∧ Below w.heap.size w w' := by
 have hu26 := Tryz.underlying26
 have HB := am (Below.refl w.heap.size w)
 obtain ⟨t, A, H⟩ := bE (am h)
 clear h
 have R0_0 := am hr0_0
 have R0_1 := am hr0_1
 have C0_0 := am hc0_0
 have C0_1 := am hc0_1
 have R1_0 := am hr1_0
 have R1_1 := am hr1_1
 have C1_0 := am hc1_0
 have C1_1 := am hc1_1
 clear hr0_0 hr0_1 hc0_0 hc0_1 hr1_0 hr1_1 hc1_0 hc1_1
 go_enter Tryz.func27, Tryz.ntmps27
 go_wp2_with (first | ((with_reducible refine gate_dst (N := 2) rfl ?_); refine bxe 2 #[.slice A0_0 l0_0.length c0_0, .slice A0_1 l0_1.length c0_1] 26 ?_; intro g2 eg w1 b hb; have G2 := szl eg; have B2 := am b; replace HB := bst hb; clear hb b eg) | ((with_reducible refine gate_dst (N := 3) rfl ?_); refine bxe 3 #[.slice A1_0 l1_0.length c1_0, .slice A1_1 l1_1.length c1_1] 26 ?_; intro g3 eg w1 b hb; have G3 := szl eg; have N2_3 := nel g2 eg; have N3_2 := ner g2 eg; replace B2 := bbl g2 hb; have B3 := am b; replace HB := bst hb; clear hb b eg) | ((with_reducible refine gate_dst (N := 4) rfl ?_); refine bxe 4 #[.slice none 0 0, .slice none 0 0] 26 ?_; intro g4 eg w1 b hb; have G4 := szl eg; have N2_4 := nel g2 eg; have N4_2 := ner g2 eg; have N3_4 := nel g3 eg; have N4_3 := ner g3 eg; replace B2 := bbl g2 hb; replace B3 := bbl g3 hb; have B4 := am b; replace HB := bst hb; clear hb b eg; obtain ⟨⟨z0, z1⟩, f0, f1⟩ := cf2 B2.out; obtain ⟨⟨y0, y1⟩, e0, e1⟩ := cf2 B3.out) | (go_at_call 52; refine (ancepsref50_both.calls k _ _ l0_0 _ _ l0_1 _ _ l1_0 _ _ l1_1 t _ rdc aso rdc aso rdc aso rdc aso A.out).mono ?_; rintro e w2 ⟨rfl, hb⟩; replace B2 := bbl g2 hb; replace B3 := bbl g3 hb; replace B4 := bbl g4 hb; replace HB := bst hb; clear hb z0 z1 f0 f1 y0 y1 e0 e1; obtain ⟨⟨x0, x1⟩, d0, d1⟩ := cf2 B4.out; obtain ⟨⟨z0, z1⟩, f0, f1⟩ := cf2 B2.out) | (go_at_call 53; replace H := bE (bF H (by assumption)); obtain ⟨⟨o, oc⟩, A2, H⟩ := H; refine (ancepsref50_set.calls k _ _ l0_0 _ _ l0_1 (⟨#[]⟩ : ByteArray) 0 o oc _ rdc aso rdc aso A2.out).mono ?_; rintro e w3 ⟨u0, u1, rfl, ho0, ho1, hb⟩; have O0 := rlo ho0; have O1 := rlo ho1; replace B2 := bbl g2 hb; replace B3 := bbl g3 hb; replace B4 := bbl g4 hb; replace HB := bst hb; clear hb ho0 ho1 z0 z1 f0 f1 x0 x1 d0 d1; obtain ⟨p0, q0, rfl⟩ := Kd.R_slice O0.out; obtain ⟨p1, q1, rfl⟩ := Kd.R_slice O1.out) | ((with_reducible refine gate_dst (N := 7) rfl ?_); refine bxe 7 #[.slice none 0 0, .slice none 0 0] 26 ?_; intro g7 eg w1 b hb; have hb0 := hb; have G7 := szl eg; have N2_7 := nel g2 eg; have N7_2 := ner g2 eg; have N3_7 := nel g3 eg; have N7_3 := ner g3 eg; have N4_7 := nel g4 eg; have N7_4 := ner g4 eg; replace B2 := bbl g2 hb; replace B3 := bbl g3 hb; replace B4 := bbl g4 hb; have B7 := am b; replace HB := bst hb; clear hb b eg; replace O0 := rbl O0 hb0; replace O1 := rbl O1 hb0; obtain ⟨⟨y0, y1⟩, e0, e1⟩ := cf2 B7.out))
 ·obtain ⟨rfl, rfl, rfl⟩ := sj3 (bT H (by assumption))
  refine bodyPost_ret (results_ct rfl _ _ g4 26 #[.slice none 0 0, .slice none 0 0] (0, 0) _ rfl (set2 sb) Tryz.underlying26 rfl (by kernel_rfl)) rfl ?_
  exact ⟨_, _, rr, rnil, rnil, bel⟩
 ·go_loopg [8] k (fun kq v8 wc => ∃ (i : Int) (o : List ByteArray) (oc : List Int) (u0 u1 : Value), v8 = .int .i64 i ∧ Aside0 (ancepsref50_Merge.l0 kq i l0_0 l0_1 l1_0 l1_1 o oc = some (r1, r2, r3)) ∧ Aside0 (RS wc w u0 o) ∧ Aside0 (RI wc w u1 oc) ∧ Aside0 (wc.heap[g2]? = some (.cells #[.slice A0_0 l0_0.length c0_0, .slice A0_1 l0_1.length c0_1] 26 (0, 0))) ∧ Aside0 (wc.heap[g3]? = some (.cells #[.slice A1_0 l1_0.length c1_0, .slice A1_1 l1_1.length c1_1] 26 (0, 0))) ∧ Aside0 (wc.heap[g4]? = some (.cells #[.slice none 0 0, .slice none 0 0] 26 (0, 0))) ∧ Aside0 (wc.heap[g7]? = some (.cells #[u0, u1] 26 (0, 0))) ∧ Aside0 (Below w.heap.size w wc))
  case atStart => exact ⟨0, o, oc, .slice p0 o.length q0, .slice p1 oc.length q1, rs, ⟨H.out⟩, ⟨rx⟩, ⟨rx⟩, ⟨sb⟩, ⟨sb⟩, ⟨sb⟩, ⟨set2 sb⟩, ⟨bel⟩⟩
  case round =>
   clear H y0 y1 e0 e1
   obtain ⟨i, o, oc, u0, u1, rfl, H, O0, O1, B2, B3, B4, B7, HB⟩ := hrel
   obtain ⟨p0, q0, rfl⟩ := Kd.R_slice O0.out
   obtain ⟨p1, q1, rfl⟩ := Kd.R_slice O1.out
   cases gk with
   | zero => exact absurd H.out (by simp [ancepsref50_Merge.l0])
   | succ k1 =>
    simp only [ancepsref50_Merge.l0] at H
    obtain ⟨⟨z0, z1⟩, f0, f1⟩ := cf2 B3.out
    obtain ⟨⟨x0, x1⟩, d0, d1⟩ := cf2 B4.out
    by_cases c : i < (l1_0.length : Int)
    ·have cd := decide_eq_true c
     replace H := jn (iT H c)
     obtain ⟨p, H⟩ := H
     replace H := bE H
     obtain ⟨t, A, H⟩ := H
     replace H := jn H
     obtain ⟨c2, H⟩ := H
     obtain ⟨ad, e0, hx⟩ := Kd.at_string R1_0.out i p c
     obtain ⟨ad2, e1, hy⟩ := Kd.at_int R1_1.out i p c2
     cases e0
     cases e1
     have hw := am hx
     have hv := am hy
     clear hx hy
     replace p := eq_true p
     replace c := eq_true c
     replace c2 := eq_true c2
     go_upto_region 8 with (fail)
     clear z0 z1 f0 f1 x0 x1 d0 d1
     refine stt 14 (fun w' => w'.cell? ⟨g2, 0, none⟩ = some (.slice A0_0 l0_0.length c0_0) ∧ w'.cell? ⟨g2, 1, none⟩ = some (.slice A0_1 l0_1.length c0_1) ∧ w'.cell? ⟨g3, 0, none⟩ = some (.slice (some ad) l1_0.length c1_0) ∧ w'.cell? ⟨g3, 1, none⟩ = some (.slice (some ad2) l1_1.length c1_1) ∧ w'.cell? (ad.add i.toNat) = some (.string (rdOf ByteArray.empty l1_0 i)) ∧ w'.cell? (ad2.add i.toNat) = some (.int .i64 (rd l1_1 i))) [] _ _ ancepsref50_Merge.tab8 ancepsref50_Merge.bits8 ⟨hc 0, hc 1, hc 0, hc 1, oc1 hw, oc1 hv⟩ fun w1 hb hS HT HW => ?_
     replace O0 := rbl O0 hb
     replace O1 := rbl O1 hb
     replace B2 := bbl g2 hb
     replace B3 := bbl g3 hb
     replace B4 := bbl g4 hb
     replace B7 := bbl g7 hb
     replace HB := bst hb
     clear hb
     refine pu 1 ?_
     refine pu 3 ?_
     refine pu 7 ?_
     refine pu 9 ?_
     refine tk 0 ?_
     refine tk 2 ?_
     refine pu 4 ?_
     refine tk 5 ?_
     refine tk 8 ?_
     refine pu 10 ?_
     refine tk 11 ?_
     refine cal 6 Tryz.func54 #[.agg #[.slice A0_0 l0_0.length c0_0, .slice A0_1 l0_1.length c0_1], .string (rdOf ByteArray.empty l1_0 i)] ?_
     refine (ancepsref50_Get.calls k1 _ _ l0_0 _ _ l0_1 _ t _ rdb aso rdb aso A.out).mono ?_
     rintro e w2 ⟨rfl, hb⟩
     replace O0 := rbl O0 hb
     replace O1 := rbl O1 hb
     replace B2 := bbl g2 hb
     replace B3 := bbl g3 hb
     replace B4 := bbl g4 hb
     replace B7 := bbl g7 hb
     replace HB := bst hb
     clear hb hS
     refine ⟨_, rfl, ⟨hc 0, hc 1, hc 0, hc 1, oc1 hw, oc1 hv⟩, fun hS => nrm ?_⟩
     refine pu 12 ?_
     refine pu 13 ?_
     refine dne ?_
     clear hS HT HW
     obtain ⟨⟨x0, x1⟩, d0, d1⟩ := cf2 B4.out
     go_upto_region 11 with (fail)
     ·obtain ⟨rfl, rfl, rfl⟩ := sj3 (iT H (by assumption))
      refine bodyPost_ret (results_ct rfl _ _ g4 26 #[.slice none 0 0, .slice none 0 0] (0, 0) _ rfl (set2 sb) Tryz.underlying26 rfl (by kernel_rfl)) rfl ?_
      exact ⟨_, _, rr, rnil, rnil, bel⟩
     ·replace H := bE (iF H (Int.not_lt.2 (by assumption)))
      obtain ⟨⟨o2, oc2⟩, A2, H⟩ := H
      clear x0 x1 d0 d1
      refine stt 9 (fun w' => w'.cell? ⟨g7, 0, none⟩ = some (.slice p0 o.length q0) ∧ w'.cell? ⟨g7, 1, none⟩ = some (.slice p1 oc.length q1) ∧ w'.cell? ⟨g3, 0, none⟩ = some (.slice (some ad) l1_0.length c1_0) ∧ w'.cell? (ad.add i.toNat) = some (.string (rdOf ByteArray.empty l1_0 i))) [8] _ _ ancepsref50_Merge.tab11 ancepsref50_Merge.bits11 ⟨hc 0, hc 1, hc 0, oc1 hw⟩ fun w3 hb hS HT HW => ?_
      replace O0 := rbl O0 hb
      replace O1 := rbl O1 hb
      replace B2 := bbl g2 hb
      replace B3 := bbl g3 hb
      replace B4 := bbl g4 hb
      replace B7 := bbl g7 hb
      replace HB := bst hb
      clear hb
      refine pu 1 ?_
      refine pu 3 ?_
      refine pu 6 ?_
      refine tk 0 ?_
      refine tk 2 ?_
      refine pu 4 ?_
      refine tk 5 ?_
      refine cal 7 Tryz.func53 #[.agg #[.slice p0 o.length q0, .slice p1 oc.length q1], .string (rdOf ByteArray.empty l1_0 i), .int .i64 (wrap64 (t + rd l1_1 i))] ?_
      refine (ancepsref50_set.calls k1 _ _ o _ _ oc _ _ o2 oc2 _ (rC O0) (rL O0) (rC O1) (rL O1) A2.out).mono ?_
      rintro e w4 ⟨u0, u1, rfl, ho0, ho1, hb⟩
      replace O0 := rlo ho0
      replace O1 := rlo ho1
      replace B2 := bbl g2 hb
      replace B3 := bbl g3 hb
      replace B4 := bbl g4 hb
      replace B7 := bbl g7 hb
      replace HB := bst hb
      clear hb ho0 ho1 hS
      refine ⟨_, rfl, ⟨hc 0, hc 1, hc 0, oc1 hw⟩, fun hS => nrm ?_⟩
      obtain ⟨p2, q2, rfl⟩ := Kd.R_slice O0.out
      obtain ⟨p3, q3, rfl⟩ := Kd.R_slice O1.out
      obtain ⟨⟨y0, y1⟩, e0, e1⟩ := cf2 B7.out
      clear hS
      refine lst 8 ?_
      go_wp2
      go_roundg k1
      case measure => omega
      case rel => exact ⟨_, o2, oc2, .slice p2 o2.length q2, .slice p3 oc2.length q3, rs, ⟨H.out⟩, ⟨rx⟩, ⟨rx⟩, ⟨sb⟩, ⟨sb⟩, ⟨sb⟩, ⟨set2 sb⟩, ⟨bel⟩⟩
    ·replace H := iF H c
     have cd := decide_eq_false c
     obtain ⟨⟨y0, y1⟩, e0, e1⟩ := cf2 B7.out
     go_wp2
     ·obtain ⟨rfl, rfl, rfl⟩ := sj3 (iT H (by omega))
      refine bodyPost_ret (results_ct rfl _ _ g4 26 #[.slice none 0 0, .slice none 0 0] (0, 0) _ rfl (set2 sb) Tryz.underlying26 rfl (by kernel_rfl)) rfl ?_
      exact ⟨_, _, rr, rnil, rnil, bel⟩
     ·obtain ⟨rfl, rfl, rfl⟩ := sj3 (iF H (by omega))
      refine bodyPost_ret (results_ct rfl _ _ g4 26 #[.slice p0 o.length q0, .slice p1 oc.length q1] (0, 0) _ rfl (set2 sb) Tryz.underlying26 rfl (by kernel_rfl)) rfl ?_
      exact ⟨_, _, rr, rx, rx, bel⟩
end Go.Proofs.YtolenfcngomdfaaGreatDoor.V
namespace Go.Proofs.YtolenfcngomdfaaGreatDoor.V
open Go.RowKit Go.Proofs.YtolenfcngomdfaaGreatDoorW.PrintWords Go.Proofs.YtolenfcngomdfaaGreatDoorW.PrintLast Go.Proofs.YtolenfcngomdfaaGreatDoorW.PrintMore
set_option linter.unusedVariables false
set_option linter.unusedSimpArgs false
set_option maxHeartbeats 8000000
set_option maxRecDepth 100000
def ancepsref53_Merge.f (k : Nat) (a0_0 : ByteArray) (l0_1 : List (S72)) (l0_2 : List ByteArray) (l0_3 : List Int) (a1_0 : ByteArray) (l1_1 : List (S72)) (l1_2 : List ByteArray) (l1_3 : List Int) : Option (ByteArray × (List (S72)) × List ByteArray × List Int × Int) := (ancepsref53_both.f k a0_0 l0_1 l0_2 l0_3 a1_0 l1_1 l1_2 l1_3).bind fun t235 => (if t235 = 0 then (if (wrap64 ((l0_1.length : Int) + (l1_1.length : Int))) > 200 then (some ((⟨#[]⟩ : ByteArray), ([] : List (S72)), ([] : List ByteArray), ([] : List Int), 3)) else ((ancepsref50_Merge.f k l0_2 l0_3 l1_2 l1_3).bind fun bt236 => (if bt236.2.2 = 0 then ((some (([] : List (S72)) : List (S72))).bind fun y244 => (if y244.length + l0_1.length < 4398046511104 then ((some (y244 ++ l0_1 : List (S72))).bind fun y247 => (if y247.length + l1_1.length < 4398046511104 then (some (a0_0, (y247 ++ l1_1), bt236.1, bt236.2.1, 0)) else (none))) else (none))) else (some ((⟨#[]⟩ : ByteArray), ([] : List (S72)), ([] : List ByteArray), ([] : List Int), bt236.2.2))))) else (some ((⟨#[]⟩ : ByteArray), ([] : List (S72)), ([] : List ByteArray), ([] : List Int), t235)))
def ancepsref53_Merge.T9 : Bool × List (List Nat × List Nat) := (true, [([], []), ([0], [0]), ([], []), ([], []), ([3], [3]), ([2, 4], [2, 4]), ([], []), ([6], [6]), ([5, 7, 5], [5, 7]), ([], []), ([1, 8, 9], [1, 8, 9]), ([10, 8, 0, 1, 2, 3, 4, 5, 6, 7, 8, 9, 10], [10]), ([11, 0, 1, 2, 3, 4, 5, 6, 7, 8, 9, 10, 11], [])])
def ancepsref53_Merge.B9 : List Nat := [0, 1, 0, 0, 8, 28, 0, 64, 252, 0, 1023, 2047, 4095]
theorem ancepsref53_Merge.tab9 : rtab .any (opsOf Tryz.f8 9) = ancepsref53_Merge.T9 := by kernel_rfl
theorem ancepsref53_Merge.bits9 : waitsOk ancepsref53_Merge.T9.2 ancepsref53_Merge.B9 = true := by kernel_rfl
theorem ancepsref53_Merge.calls (k : Nat) (a0_0 : ByteArray) (A0_1 : Option Addr) (c0_1 : Nat) (l0_1 : List (S72)) (A0_2 : Option Addr) (c0_2 : Nat) (l0_2 : List ByteArray) (A0_3 : Option Addr) (c0_3 : Nat) (l0_3 : List Int) (a1_0 : ByteArray) (A1_1 : Option Addr) (c1_1 : Nat) (l1_1 : List (S72)) (A1_2 : Option Addr) (c1_2 : Nat) (l1_2 : List ByteArray) (A1_3 : Option Addr) (c1_3 : Nat) (l1_3 : List Int) (r1 : ByteArray) (r2 : List (S72)) (r3 : List ByteArray) (r4 : List Int) (r5 : Int) (w : World) (hr0_1 : Kd.C k72 w A0_1 l0_1.length l0_1) (hc0_1 : l0_1.length ≤ c0_1) (hr0_2 : Kd.C Kd.string w A0_2 l0_2.length l0_2) (hc0_2 : l0_2.length ≤ c0_2) (hr0_3 : Kd.C (Kd.int .i64) w A0_3 l0_3.length l0_3) (hc0_3 : l0_3.length ≤ c0_3) (hr1_1 : Kd.C k72 w A1_1 l1_1.length l1_1) (hc1_1 : l1_1.length ≤ c1_1) (hr1_2 : Kd.C Kd.string w A1_2 l1_2.length l1_2) (hc1_2 : l1_2.length ≤ c1_2) (hr1_3 : Kd.C (Kd.int .i64) w A1_3 l1_3.length l1_3) (hc1_3 : l1_3.length ≤ c1_3) (h : ancepsref53_Merge.f k a0_0 l0_1 l0_2 l0_3 a1_0 l1_1 l1_2 l1_3 = some (r1, r2, r3, r4, r5)) :
  Calls Tryz.prog 8 #[.agg #[.string a0_0, .slice A0_1 l0_1.length c0_1, .slice A0_2 l0_2.length c0_2, .slice A0_3 l0_3.length c0_3], .agg #[.string a1_0, .slice A1_1 l1_1.length c1_1, .slice A1_2 l1_2.length c1_2, .slice A1_3 l1_3.length c1_3]] w fun e w' => ∃ v1_ v2_ v3_ : Value, e = .returned (.tuple #[.agg #[.string r1, v1_, v2_, v3_], .int .i64 r5]) ∧ Kd.R k72 72 w' w.heap.size (fun _ => True) v1_ r2 ∧ Kd.R Kd.string 9 w' w.heap.size (fun _ => True) v2_ r3 ∧ Kd.R (Kd.int .i64) 3 w' w.heap.size (fun _ => True) v3_ r4 ∧ Below w.heap.size w w' := by
 have hu28 := Tryz.underlying28
 have hu26 := Tryz.underlying26
 have hu72 := Tryz.underlying72
 have HB := am (Below.refl w.heap.size w)
 obtain ⟨t, A, H⟩ := bE (am h)
 clear h
 have R0_1 := am hr0_1
 have R0_2 := am hr0_2
 have R0_3 := am hr0_3
 have C0_1 := am hc0_1
 have C0_2 := am hc0_2
 have C0_3 := am hc0_3
 have R1_1 := am hr1_1
 have R1_2 := am hr1_2
 have R1_3 := am hr1_3
 have C1_1 := am hc1_1
 have C1_2 := am hc1_2
 have C1_3 := am hc1_3
 clear hr0_1 hr0_2 hr0_3 hc0_1 hc0_2 hc0_3 hr1_1 hr1_2 hr1_3 hc1_1 hc1_2 hc1_3
 go_enter Tryz.func8, Tryz.ntmps8
 go_wp2_with (first | ((with_reducible refine gate_dst (N := 2) rfl ?_); refine bxe 2 #[.string a0_0, .slice A0_1 l0_1.length c0_1, .slice A0_2 l0_2.length c0_2, .slice A0_3 l0_3.length c0_3] 28 ?_; intro g2 eg w1 b hb; have G2 := szl eg; have B2 := am b; replace HB := bst hb; clear hb b eg) | ((with_reducible refine gate_dst (N := 3) rfl ?_); refine bxe 3 #[.string a1_0, .slice A1_1 l1_1.length c1_1, .slice A1_2 l1_2.length c1_2, .slice A1_3 l1_3.length c1_3] 28 ?_; intro g3 eg w1 b hb; have G3 := szl eg; have N2_3 := nel g2 eg; have N3_2 := ner g2 eg; replace B2 := bbl g2 hb; have B3 := am b; replace HB := bst hb; clear hb b eg) | ((with_reducible refine gate_dst (N := 4) rfl ?_); refine bxe 4 #[.string ⟨#[]⟩, .slice none 0 0, .slice none 0 0, .slice none 0 0] 28 ?_; intro g4 eg w1 b hb; have G4 := szl eg; have N2_4 := nel g2 eg; have N4_2 := ner g2 eg; have N3_4 := nel g3 eg; have N4_3 := ner g3 eg; replace B2 := bbl g2 hb; replace B3 := bbl g3 hb; have B4 := am b; replace HB := bst hb; clear hb b eg; obtain ⟨⟨z0, z1, z2, z3⟩, f0, f1, f2, f3⟩ := cf4 B2.out; obtain ⟨⟨y0, y1, y2, y3⟩, m0, m1, m2, m3⟩ := cf4 B3.out) | (go_at_call 26; refine (ancepsref53_both.calls k _ _ _ l0_1 _ _ l0_2 _ _ l0_3 _ _ _ l1_1 _ _ l1_2 _ _ l1_3 t _ rdc aso rdc aso rdc aso rdc aso rdc aso rdc aso A.out).mono ?_; rintro e w2 ⟨rfl, hb⟩; replace B2 := bbl g2 hb; replace B3 := bbl g3 hb; replace B4 := bbl g4 hb; replace HB := bst hb; clear hb z0 z1 z2 z3 f0 f1 f2 f3 y0 y1 y2 y3 m0 m1 m2 m3; obtain ⟨⟨z0, z1, z2, z3⟩, f0, f1, f2, f3⟩ := cf4 B2.out; obtain ⟨⟨y0, y1, y2, y3⟩, m0, m1, m2, m3⟩ := cf4 B3.out; obtain ⟨⟨x0, x1, x2, x3⟩, d0, d1, d2, d3⟩ := cf4 B4.out) | (go_at_call 27; replace H := bE (iF (bF H (by assumption)) (Int.not_lt.2 (by assumption))); obtain ⟨⟨o, oc, e2⟩, A2, H⟩ := H; refine (ancepsref50_Merge.calls k _ _ l0_2 _ _ l0_3 _ _ l1_2 _ _ l1_3 o oc e2 _ rdc aso rdc aso rdc aso rdc aso A2.out).mono ?_; rintro e w3 ⟨u0, u1, rfl, ho0, ho1, hb⟩; have O0 := rlo ho0; have O1 := rlo ho1; replace B2 := bbl g2 hb; replace B3 := bbl g3 hb; replace B4 := bbl g4 hb; replace HB := bst hb; clear hb ho0 ho1 z0 z1 z2 z3 f0 f1 f2 f3 y0 y1 y2 y3 m0 m1 m2 m3 x0 x1 x2 x3 d0 d1 d2 d3; obtain ⟨p0, q0, rfl⟩ := Kd.R_slice O0.out; obtain ⟨p1, q1, rfl⟩ := Kd.R_slice O1.out; obtain ⟨⟨x0, x1, x2, x3⟩, d0, d1, d2, d3⟩ := cf4 B4.out) | ((with_reducible refine gate_dst (N := 7) rfl ?_); refine bxe 7 #[.slice none 0 0, .slice none 0 0] 26 ?_; intro g7 eg w1 b hb; have hb0 := hb; have G7 := szl eg; have N2_7 := nel g2 eg; have N7_2 := ner g2 eg; have N3_7 := nel g3 eg; have N7_3 := ner g3 eg; have N4_7 := nel g4 eg; have N7_4 := ner g4 eg; replace B2 := bbl g2 hb; replace B3 := bbl g3 hb; replace B4 := bbl g4 hb; have B7 := am b; replace HB := bst hb; clear hb b eg; replace O0 := rbl O0 hb0; replace O1 := rbl O1 hb0; clear hb0 x0 x1 x2 x3 d0 d1 d2 d3; obtain ⟨⟨x0, x1, x2, x3⟩, d0, d1, d2, d3⟩ := cf4 B4.out; obtain ⟨⟨v0, v1⟩, h0, h1⟩ := cf2 B7.out; have n47 := N4_7.out; have n74 := N7_4.out))
 ·obtain ⟨rfl, rfl, rfl, rfl, rfl⟩ := sj5 (bT H (by assumption))
  refine bodyPost_ret (results_ct rfl _ _ g4 28 #[.string ⟨#[]⟩, .slice none 0 0, .slice none 0 0, .slice none 0 0] (0, 0) _ rfl (set4 sb) Tryz.underlying28 rfl (by kernel_rfl)) rfl ?_
  exact ⟨_, _, _, rr, rnil, rnil, rnil, bel⟩
 ·obtain ⟨rfl, rfl, rfl, rfl, rfl⟩ := sj5 (iT (bF H (by assumption)) (by assumption))
  refine bodyPost_ret (results_ct rfl _ _ g4 28 #[.string ⟨#[]⟩, .slice none 0 0, .slice none 0 0, .slice none 0 0] (0, 0) _ rfl (set4 sb) Tryz.underlying28 rfl (by kernel_rfl)) rfl ?_
  exact ⟨_, _, _, rr, rnil, rnil, rnil, bel⟩
 ·obtain ⟨rfl, rfl, rfl, rfl, rfl⟩ := sj5 (bT (t := e2) H (by assumption))
  refine bodyPost_ret (results_ct rfl _ _ g4 28 #[.string ⟨#[]⟩, .slice none 0 0, .slice none 0 0, .slice none 0 0] (0, 0) _ rfl (set4 sb) Tryz.underlying28 rfl (by kernel_rfl)) rfl ?_
  exact ⟨_, _, _, rr, rnil, rnil, rnil, bel⟩
 ·replace H := bF (t := e2) H (by assumption)
  clear x0 x1 x2 x3 d0 d1 d2 d3 v0 v1 h0 h1
  obtain ⟨y, Y, H⟩ := bE H
  obtain rfl := sj Y
  clear Y
  replace H := jn H
  obtain ⟨L0, H⟩ := H
  replace L0 := am L0
  replace H := bE H
  obtain ⟨ls, Y0, H⟩ := H
  replace Y0 := am (sj Y0).symm
  replace H := jn H
  obtain ⟨L1, H⟩ := H
  replace L1 := am L1
  obtain ⟨ls2, Y1⟩ : ∃ x, Aside0 (x = ls ++ l1_1) := ⟨_, ⟨rfl⟩⟩
  rw [← Y1.out] at H
  obtain ⟨rfl, rfl, rfl, rfl, rfl⟩ := sj5 H
  go_upto_region 9 with (fail)
  refine stt 13 (fun w' => w'.cell? ⟨g2, 0, none⟩ = some (.string a0_0) ∧ w'.cell? ⟨g2, 1, none⟩ = some (.slice A0_1 l0_1.length c0_1) ∧ w'.cell? ⟨g3, 1, none⟩ = some (.slice A1_1 l1_1.length c1_1) ∧ w'.cell? ⟨g7, 0, none⟩ = some (.slice p0 o.length q0) ∧ w'.cell? ⟨g7, 1, none⟩ = some (.slice p1 oc.length q1)) [] _ _ ancepsref53_Merge.tab9 ancepsref53_Merge.bits9 ⟨hc 0, hc 1, hc 1, hc 0, hc 1⟩ fun w5 hb hS HT HW => ?_
  replace O0 := rbl O0 hb
  replace O1 := rbl O1 hb
  replace B2 := bbl g2 hb
  replace B3 := bbl g3 hb
  replace B4 := bbl g4 hb
  replace B7 := bbl g7 hb
  replace B7 := nb2 B7
  replace HB := bst hb
  clear hb n47 n74
  refine pu 0 ?_
  refine pu 3 ?_
  refine pu 6 ?_
  refine tk 1 ?_
  refine tk 4 ?_
  refine tk 7 ?_
  refine tk 9 ?_
  refine dlV 2 ?_
  intro v1 w6 ho hb
  have O2 := rlo ho
  replace O0 := rbl O0 hb
  replace O1 := rbl O1 hb
  replace B2 := bbl g2 hb
  replace B3 := bbl g3 hb
  replace B4 := bbl g4 hb
  replace B7 := bbl g7 hb
  replace HB := bst hb
  obtain ⟨p2, q2, rfl⟩ := Kd.R_slice O2.out
  clear hb ho hS
  refine ⟨⟨hc 0, hc 1, hc 1, hc 0, hc 1⟩, fun hS => nrm ?_⟩
  refine dpV 5 O2 A0_1 c0_1 l0_1 rdb L0 ?_
  intro v2 w7 ho HB1 hs hg
  replace O0 := rgr O0 hs hg
  replace O1 := rgr O1 hs hg
  replace B2 := bgr g2 hs hg
  replace B3 := bgr g3 hs hg
  replace B4 := bgr g4 hs hg
  replace B7 := bgr g7 hs hg
  replace HB := HB1
  replace O2 := ho
  clear HB1 ho hs hg hS
  rw [← Y0.out] at O2
  obtain ⟨p2, q2, rfl⟩ := Kd.R_slice O2.out
  refine ⟨⟨hc 0, hc 1, hc 1, hc 0, hc 1⟩, fun hS => nrm ?_⟩
  refine dpV 8 O2 A1_1 c1_1 l1_1 rdb L1 ?_
  intro v2 w7 ho HB1 hs hg
  replace O0 := rgr O0 hs hg
  replace O1 := rgr O1 hs hg
  replace B2 := bgr g2 hs hg
  replace B3 := bgr g3 hs hg
  replace B4 := bgr g4 hs hg
  replace B7 := bgr g7 hs hg
  replace HB := HB1
  replace O2 := ho
  clear HB1 ho hs hg hS
  rw [← Y1.out] at O2
  obtain ⟨p2, q2, rfl⟩ := Kd.R_slice O2.out
  refine ⟨⟨hc 0, hc 1, hc 1, hc 0, hc 1⟩, fun hS => nrm ?_⟩
  clear hS
  obtain ⟨⟨x0, x1, x2, x3⟩, d0, d1, d2, d3⟩ := cf4 B4.out
  refine pu 10 ?_
  refine sto 11 ?_
  refine ⟨⟨hc 0, hc 1, hc 1, hc 0, hc 1⟩, fun hS => ?_⟩
  refine pu 12 ?_
  refine dne ?_
  clear hS x0 x1 x2 x3 d0 d1 d2 d3
  go_wp2
  refine bodyPost_ret (results_ct rfl _ _ g4 28 #[.string a0_0, .slice p2 ls2.length q2, .slice p0 o.length q0, .slice p1 oc.length q1] (0, 0) _ rfl (set4 sb) Tryz.underlying28 rfl (by kernel_rfl)) rfl ?_
  exact ⟨_, _, _, rr, rx, rx, rx, bel⟩
end Go.Proofs.YtolenfcngomdfaaGreatDoor.V
