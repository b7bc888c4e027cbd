/- A part of the proof of the tied card of ProfileMerge (chapter 53): the law returns true whatever the input. -/
import Derived.Test.YtolenfcngomdfaaGreatDoorZU1
import Derived.Test.YtolenfcngomdfaaGreatDoorZU5
set_option linter.unusedVariables false
set_option linter.unusedSimpArgs false
namespace Go.Proofs.YtolenfcngomdfaaGreatDoor.V
open Go.RowKit Go.Proofs.YtolenfcngomdfaaGreatDoorW.PrintWords Go.Proofs.YtolenfcngomdfaaGreatDoorW.PrintLast Go.Proofs.YtolenfcngomdfaaGreatDoorW.PrintMore
set_option linter.unusedVariables false
set_option linter.unusedSimpArgs false
set_option maxHeartbeats 8000000
set_option maxRecDepth 100000
def tally_Valid.l0 : Nat → Int → Int → List ByteArray → List Int → Option (Int)
 | 0, _, _, _, _ => none
 | k + 1, x18, x19, x278000, x278001 => if x19 < x18 then ((tally_entry.f k x278000 x278001 x19).bind fun t278 => (if t278 = 0 then (tally_Valid.l0 k x18 (wrap64 (x19 + 1)) x278000 x278001) else (some t278))) else (some 0)
def tally_Valid.f (k : Nat) (l0_0 : List ByteArray) (l0_1 : List Int) : Option (Int) := if (l0_0.length : Int) = (l0_1.length : Int) then (if (l0_0.length : Int) > 2000 then (some 3) else (tally_Valid.l0 k (l0_0.length : Int) 0 l0_0 l0_1)) else (some 1)
theorem tally_Valid.calls (k : Nat) (A0_0 : Option Addr) (c0_0 : Nat) (l0_0 : List ByteArray) (A0_1 : Option Addr) (c0_1 : Nat) (l0_1 : List Int) (r : Int) (w : World) (hr0_0 : Kd.C Kd.string w A0_0 l0_0.length l0_0) (hc0_0 : l0_0.length ≤ c0_0) (hr0_1 : Kd.C (Kd.int .i64) w A0_1 l0_1.length l0_1) (hc0_1 : l0_1.length ≤ c0_1) (h : tally_Valid.f k l0_0 l0_1 = some r) :
  Calls Tryz.prog 98 #[.agg #[.slice A0_0 l0_0.length c0_0, .slice A0_1 l0_1.length c0_1]] w fun e w' => e = .returned (.int .i64 r) ∧ Below w.heap.size w w' := by
 have hu26 := Tryz.underlying26
 have HB := am (Below.refl w.heap.size w)
 have H := am h
 clear h
 unfold tally_Valid.f at H
 have R0_0 := am hr0_0
 have R0_1 := am hr0_1
 have C0_0 := am hc0_0
 have C0_1 := am hc0_1
 clear hr0_0 hr0_1 hc0_0 hc0_1
 go_enter Tryz.func98, Tryz.ntmps98
 go_wp2_with (first | ((with_reducible refine gate_dst (N := 1) rfl ?_); refine bx 1 #[.slice A0_0 l0_0.length c0_0, .slice A0_1 l0_1.length c0_1] 26 ?_; intro g1 w1 b1 hb; have B1 := am b1; replace HB := bst hb; clear hb b1; obtain ⟨⟨z0, z1⟩, f0, f1⟩ := cf2 B1.out))
 ·obtain rfl := sj (iF H (bne_iff_ne.mp (by assumption)))
  go_ret
  exact ⟨rr, bel⟩
 ·obtain rfl := sj (iT (iT H (bne_eq_false_iff_eq.mp (by assumption))) (by omega))
  go_ret
  exact ⟨rr, bel⟩
 ·have q : ((l0_0.length : Int) != (l0_1.length : Int)) = false := by assumption
  replace H := iF (iT H (bne_eq_false_iff_eq.mp q)) (by omega)
  rw [q]
  go_loopg [19] k (fun kq v19 w' => ∃ (x : Int), v19 = .int .i64 x ∧ Aside0 (tally_Valid.l0 kq (l0_0.length : Int) x l0_0 l0_1 = some r) ∧ Aside0 (w'.heap[g1]? = some (.cells #[.slice A0_0 l0_0.length c0_0, .slice A0_1 l0_1.length c0_1] 26 (0, 0))) ∧ Aside0 (Below w.heap.size w w'))
  case atStart => exact ⟨0, rs, H, ⟨skb⟩, ⟨bel⟩⟩
  case round =>
   clear H z0 z1 f0 f1
   obtain ⟨x, rfl, H, B1, HB⟩ := hrel
   cases gk with
   | zero => exact absurd H.out (by simp [tally_Valid.l0])
   | succ k1 =>
    simp only [tally_Valid.l0] at H
    obtain ⟨⟨z0, z1⟩, f0, f1⟩ := cf2 B1.out
    go_wp2_with (first | (go_at_call 171; obtain ⟨t, A, H⟩ := bE (iT H (by assumption)); refine (tally_entry.calls k1 _ _ l0_0 _ _ l0_1 x t _ rdc aso rdc aso A.out).mono ?_; rintro e w3 ⟨rfl, hb⟩; replace B1 := bbl g1 hb; replace HB := bst hb; clear hb z0 z1 f0 f1))
    ·obtain rfl := sj (bT H (by assumption))
     go_ret
     exact ⟨rr, bel⟩
    ·go_roundg k1
     case measure => omega
     case rel => exact ⟨_, rs, bF H (by assumption), ⟨skb⟩, ⟨bel⟩⟩
    ·obtain rfl := sj (iF H (by omega))
     go_ret
     exact ⟨rr, bel⟩
def tally_both.f (k : Nat) (l0_0 : List ByteArray) (l0_1 : List Int) (l1_0 : List ByteArray) (l1_1 : List Int) : Option (Int) := (tally_Valid.f k l0_0 l0_1).bind fun t292 => (if t292 = 0 then ((tally_Valid.f k l1_0 l1_1).bind fun t293 => (some t293)) else (some t292))
theorem tally_both.calls (k : Nat) (A0_0 : Option Addr) (c0_0 : Nat) (l0_0 : List ByteArray) (A0_1 : Option Addr) (c0_1 : Nat) (l0_1 : List Int) (A1_0 : Option Addr) (c1_0 : Nat) (l1_0 : List ByteArray) (A1_1 : Option Addr) (c1_1 : Nat) (l1_1 : List Int) (r : Int) (w : World) (hr0_0 : Kd.C Kd.string w A0_0 l0_0.length l0_0) (hc0_0 : l0_0.length ≤ c0_0) (hr0_1 : Kd.C (Kd.int .i64) w A0_1 l0_1.length l0_1) (hc0_1 : l0_1.length ≤ c0_1) (hr1_0 : Kd.C Kd.string w A1_0 l1_0.length l1_0) (hc1_0 : l1_0.length ≤ c1_0) (hr1_1 : Kd.C (Kd.int .i64) w A1_1 l1_1.length l1_1) (hc1_1 : l1_1.length ≤ c1_1) (h : tally_both.f k l0_0 l0_1 l1_0 l1_1 = some r) :
  Calls Tryz.prog 48 #[.agg #[.slice A0_0 l0_0.length c0_0, .slice A0_1 l0_1.length c0_1], .agg #[.slice A1_0 l1_0.length c1_0, .slice A1_1 l1_1.length c1_1]] w fun e w' => e = .returned (.int .i64 r) ∧ Below w.heap.size w w' := by
 have hu26 := Tryz.underlying26
 have HB := am (Below.refl w.heap.size w)
 obtain ⟨t, A, H⟩ := bE (am h)
 clear h
 have R0_0 := am hr0_0
 have R0_1 := am hr0_1
 have C0_0 := am hc0_0
 have C0_1 := am hc0_1
 have R1_0 := am hr1_0
 have R1_1 := am hr1_1
 have C1_0 := am hc1_0
 have C1_1 := am hc1_1
 clear hr0_0 hr0_1 hc0_0 hc0_1 hr1_0 hr1_1 hc1_0 hc1_1
 go_enter Tryz.func48, Tryz.ntmps48
 go_wp2_with (first | ((with_reducible refine gate_dst (N := 2) rfl ?_); refine bx 2 #[.slice A0_0 l0_0.length c0_0, .slice A0_1 l0_1.length c0_1] 26 ?_; intro g1 w1 b1 hb; have B1 := am b1; replace HB := bst hb; clear hb b1) | ((with_reducible refine gate_dst (N := 3) rfl ?_); refine bx 3 #[.slice A1_0 l1_0.length c1_0, .slice A1_1 l1_1.length c1_1] 26 ?_; intro g2 w2 b2 hb; replace B1 := bbl g1 hb; have B2 := am b2; replace HB := bst hb; clear hb b2; obtain ⟨⟨z0, z1⟩, f0, f1⟩ := cf2 B1.out) | (go_at_call 98; (with_reducible refine (tally_Valid.calls k _ _ l0_0 _ _ l0_1 t _ rdc aso rdc aso A.out).mono ?_); rintro e w3 ⟨rfl, hb⟩; replace B2 := bbl g2 hb; replace HB := bst hb; clear hb z0 z1 f0 f1; obtain ⟨⟨z0, z1⟩, f0, f1⟩ := cf2 B2.out) | (go_at_call 98; obtain ⟨t2, A2, H⟩ := bE (bF H (by assumption)); refine (tally_Valid.calls k _ _ l1_0 _ _ l1_1 t2 _ rdc aso rdc aso A2.out).mono ?_; rintro e w4 ⟨rfl, hb⟩; replace HB := bst hb; clear hb))
 ·obtain rfl := sj (bT H (by assumption))
  go_ret
  exact ⟨rr, bel⟩
 ·obtain rfl := sj H
  go_ret
  exact ⟨rr, bel⟩
end Go.Proofs.YtolenfcngomdfaaGreatDoor.V
namespace Go.Proofs.YtolenfcngomdfaaGreatDoor.V
open Go.RowKit Go.Proofs.YtolenfcngomdfaaGreatDoorW.PrintWords Go.Proofs.YtolenfcngomdfaaGreatDoorW.PrintLast Go.Proofs.YtolenfcngomdfaaGreatDoorW.PrintMore
set_option linter.unusedVariables false
set_option linter.unusedSimpArgs false
set_option maxHeartbeats 8000000
set_option maxRecDepth 100000
def profile_valid.l0 : Nat → List (S72) → Int → Int → ByteArray → List (S72) → List ByteArray → List Int → Option (Int)
 | 0, _, _, _, _, _, _, _ => none
 | k + 1, x17, x18, x19, x280000, x280001, x280002, x280003 => if x19 < x18 then (if 0 ≤ x19 then (if x19 < (x17.length : Int) then ((text_Valid.f k ((rd_T72 x17 x19).f0)).bind fun t284 => (if t284 = 0 then ((token_IsName.f k ((rd_T72 x17 x19).f1)).bind fun t285 => (if t285 = true then (profile_valid.l0 k x17 x18 (wrap64 (x19 + 1)) x280000 x280001 x280002 x280003) else (some 2))) else (some t284))) else (none)) else (none)) else ((tally_Valid.f k x280002 x280003).bind fun t281 => (some t281))
def profile_valid.f (k : Nat) (a0_0 : ByteArray) (l0_1 : List (S72)) (l0_2 : List ByteArray) (l0_3 : List Int) : Option (Int) := (token_IsName.f k a0_0).bind fun t280 => (if t280 = true then (if (l0_1.length : Int) > 200 then (some 3) else (profile_valid.l0 k l0_1 (l0_1.length : Int) 0 a0_0 l0_1 l0_2 l0_3)) else (some 2))
theorem profile_valid.calls (k : Nat) (a0_0 : ByteArray) (A0_1 : Option Addr) (c0_1 : Nat) (l0_1 : List (S72)) (A0_2 : Option Addr) (c0_2 : Nat) (l0_2 : List ByteArray) (A0_3 : Option Addr) (c0_3 : Nat) (l0_3 : List Int) (r : Int) (w : World) (hr0_1 : Kd.C k72 w A0_1 l0_1.length l0_1) (hc0_1 : l0_1.length ≤ c0_1) (hr0_2 : Kd.C Kd.string w A0_2 l0_2.length l0_2) (hc0_2 : l0_2.length ≤ c0_2) (hr0_3 : Kd.C (Kd.int .i64) w A0_3 l0_3.length l0_3) (hc0_3 : l0_3.length ≤ c0_3) (h : profile_valid.f k a0_0 l0_1 l0_2 l0_3 = some r) :
  Calls Tryz.prog 41 #[.agg #[.string a0_0, .slice A0_1 l0_1.length c0_1, .slice A0_2 l0_2.length c0_2, .slice A0_3 l0_3.length c0_3]] w fun e w' => e = .returned (.int .i64 r) ∧ Below w.heap.size w w' := by
 have hu28 := Tryz.underlying28
 have hu72 := Tryz.underlying72
 have hu26 := Tryz.underlying26
 have HB := am (Below.refl w.heap.size w)
 obtain ⟨t, A, H⟩ := bE (am h)
 clear h
 have R0_1 := am hr0_1
 have R0_2 := am hr0_2
 have R0_3 := am hr0_3
 have C0_1 := am hc0_1
 have C0_2 := am hc0_2
 have C0_3 := am hc0_3
 clear hr0_1 hr0_2 hr0_3 hc0_1 hc0_2 hc0_3
 go_enter Tryz.func41, Tryz.ntmps41
 go_wp2_with (first | ((with_reducible refine gate_dst (N := 1) rfl ?_); refine bx 1 #[.string a0_0, .slice A0_1 l0_1.length c0_1, .slice A0_2 l0_2.length c0_2, .slice A0_3 l0_3.length c0_3] 28 ?_; intro g1 w1 b1 hb; have B1 := am b1; replace HB := bst hb; clear hb b1; obtain ⟨⟨z0, z1, z2, z3⟩, f0, f1, f2, f3⟩ := cf4 B1.out) | (go_at_call 40; refine (token_IsName.calls k a0_0 t _ A.out).mono ?_; rintro e w2 ⟨rfl, ⟨nd, rfl⟩⟩))
 ·obtain rfl := sj (nT H (by assumption))
  go_ret
  exact ⟨rr, bel⟩
 ·obtain rfl := sj (iT (nF H (by assumption)) (by omega))
  go_ret
  exact ⟨rr, bel⟩
 ·replace H := iF (nF H (by assumption)) (by omega)
  have q : (!t) = false := by assumption
  obtain rfl : t = true := by simpa using q
  simp only [Bool.not_true]
  go_loopg [19] k (fun kq v19 w' => ∃ (x : Int), v19 = .int .i64 x ∧ Aside0 (profile_valid.l0 kq l0_1 (l0_1.length : Int) x a0_0 l0_1 l0_2 l0_3 = some r) ∧ Aside0 (w'.heap[g1]? = some (.cells #[.string a0_0, .slice A0_1 l0_1.length c0_1, .slice A0_2 l0_2.length c0_2, .slice A0_3 l0_3.length c0_3] 28 (0, 0))) ∧ Aside0 (Below w.heap.size w w'))
  case atStart => exact ⟨0, rs, H, ⟨skb⟩, ⟨bel⟩⟩
  case round =>
   clear H z0 z1 z2 z3 f0 f1 f2 f3 q
   obtain ⟨x, rfl, H, B1, HB⟩ := hrel
   cases gk with
   | zero => exact absurd H.out (by simp [profile_valid.l0])
   | succ k1 =>
    simp only [profile_valid.l0] at H
    by_cases c : x < (l0_1.length : Int)
    ·obtain ⟨p, H⟩ := jn (iT H c)
     obtain ⟨_, H⟩ := jn H
     obtain ⟨t, A2, H⟩ := bE H
     have cd := decide_eq_true c
     obtain ⟨ad, e0, hx0, hx1⟩ := at_T72 R0_1.out x p c
     cases e0
     replace hx0 := (HB.out.cell (World.block_lt_of_cell? w _ hx0)).trans hx0
     replace hx1 := (HB.out.cell (World.block_lt_of_cell? w _ hx1)).trans hx1
     replace p := eq_true p
     replace c := eq_true c
     go_wp2_with (first | ((with_reducible refine gate_dst (N := 4) rfl ?_); refine bxe 4 #[.string ⟨#[]⟩, .string ⟨#[]⟩] 72 ?_; intro g2 eg w2 b2 hb; have N12 := nel g1 eg; have N21 := ner g1 eg; have G2 := szl eg; replace B1 := bbl g1 hb; have B2 := am b2; replace HB := bst hb; clear hb b2 eg; have n1 := N12.out; have n2 := N21.out; obtain ⟨⟨y0, y1⟩, e0, e1⟩ := cf2 B2.out) | (go_at_call 97; refine (text_Valid.calls k1 _ t _ A2.out).mono ?_; rintro e w3 ⟨rfl, hb⟩; replace B1 := bbl g1 hb; replace B2 := bbl g2 hb; replace HB := bst hb; clear hb y0 y1 e0 e1; obtain ⟨⟨y0, y1⟩, e0, e1⟩ := cf2 B2.out) | (go_at_call 40; obtain ⟨t2, A3, H⟩ := bE (bF H (by assumption)); refine (token_IsName.calls k1 _ t2 _ A3.out).mono ?_; rintro e w' ⟨rfl, ⟨nd, rfl⟩⟩))
     ·obtain rfl := sj (bT H (by assumption))
      go_ret
      exact ⟨rr, bel⟩
     ·obtain rfl := sj (nT H (by assumption))
      go_ret
      exact ⟨rr, bel⟩
     ·go_roundg k1
      case measure => omega
      case rel => exact ⟨_, rs, nF H (by assumption), ⟨skb⟩, ⟨bel⟩⟩
    ·obtain ⟨t, A2, H⟩ := bE (iF H c)
     obtain rfl := sj H
     have cd := decide_eq_false c
     obtain ⟨⟨z0, z1, z2, z3⟩, f0, f1, f2, f3⟩ := cf4 B1.out
     go_wp2_with (first | (go_at_call 98; refine (tally_Valid.calls k1 _ _ l0_2 _ _ l0_3 t _ rdc aso rdc aso A2.out).mono ?_; rintro e w3 ⟨rfl, hb⟩; replace HB := bst hb; clear hb))
     go_ret
     exact ⟨rr, bel⟩
def profile_both.f (k : Nat) (a0_0 : ByteArray) (l0_1 : List (S72)) (l0_2 : List ByteArray) (l0_3 : List Int) (a1_0 : ByteArray) (l1_1 : List (S72)) (l1_2 : List ByteArray) (l1_3 : List Int) : Option (Int) := (profile_valid.f k a0_0 l0_1 l0_2 l0_3).bind fun t288 => (if t288 = 0 then ((profile_valid.f k a1_0 l1_1 l1_2 l1_3).bind fun t289 => (some t289)) else (some t288))
theorem profile_both.calls (k : Nat) (a0_0 : ByteArray) (A0_1 : Option Addr) (c0_1 : Nat) (l0_1 : List (S72)) (A0_2 : Option Addr) (c0_2 : Nat) (l0_2 : List ByteArray) (A0_3 : Option Addr) (c0_3 : Nat) (l0_3 : List Int) (a1_0 : ByteArray) (A1_1 : Option Addr) (c1_1 : Nat) (l1_1 : List (S72)) (A1_2 : Option Addr) (c1_2 : Nat) (l1_2 : List ByteArray) (A1_3 : Option Addr) (c1_3 : Nat) (l1_3 : List Int) (r : Int) (w : World) (hr0_1 : Kd.C k72 w A0_1 l0_1.length l0_1) (hc0_1 : l0_1.length ≤ c0_1) (hr0_2 : Kd.C Kd.string w A0_2 l0_2.length l0_2) (hc0_2 : l0_2.length ≤ c0_2) (hr0_3 : Kd.C (Kd.int .i64) w A0_3 l0_3.length l0_3) (hc0_3 : l0_3.length ≤ c0_3) (hr1_1 : Kd.C k72 w A1_1 l1_1.length l1_1) (hc1_1 : l1_1.length ≤ c1_1) (hr1_2 : Kd.C Kd.string w A1_2 l1_2.length l1_2) (hc1_2 : l1_2.length ≤ c1_2) (hr1_3 : Kd.C (Kd.int .i64) w A1_3 l1_3.length l1_3) (hc1_3 : l1_3.length ≤ c1_3) (h : profile_both.f k a0_0 l0_1 l0_2 l0_3 a1_0 l1_1 l1_2 l1_3 = some r) :
  Calls Tryz.prog 20 #[.agg #[.string a0_0, .slice A0_1 l0_1.length c0_1, .slice A0_2 l0_2.length c0_2, .slice A0_3 l0_3.length c0_3], .agg #[.string a1_0, .slice A1_1 l1_1.length c1_1, .slice A1_2 l1_2.length c1_2, .slice A1_3 l1_3.length c1_3]] w fun e w' => e = .returned (.int .i64 r) ∧ Below w.heap.size w w' := by
 have hu28 := Tryz.underlying28
 have HB := am (Below.refl w.heap.size w)
 obtain ⟨t, A, H⟩ := bE (am h)
 clear h
 have R0_1 := am hr0_1
 have R0_2 := am hr0_2
 have R0_3 := am hr0_3
 have C0_1 := am hc0_1
 have C0_2 := am hc0_2
 have C0_3 := am hc0_3
 have R1_1 := am hr1_1
 have R1_2 := am hr1_2
 have R1_3 := am hr1_3
 have C1_1 := am hc1_1
 have C1_2 := am hc1_2
 have C1_3 := am hc1_3
 clear hr0_1 hr0_2 hr0_3 hc0_1 hc0_2 hc0_3 hr1_1 hr1_2 hr1_3 hc1_1 hc1_2 hc1_3
 go_enter Tryz.func20, Tryz.ntmps20
 go_wp2_with (first | ((with_reducible refine gate_dst (N := 2) rfl ?_); refine bx 2 #[.string a0_0, .slice A0_1 l0_1.length c0_1, .slice A0_2 l0_2.length c0_2, .slice A0_3 l0_3.length c0_3] 28 ?_; intro g1 w1 b1 hb; have B1 := am b1; replace HB := bst hb; clear hb b1) | ((with_reducible refine gate_dst (N := 3) rfl ?_); refine bx 3 #[.string a1_0, .slice A1_1 l1_1.length c1_1, .slice A1_2 l1_2.length c1_2, .slice A1_3 l1_3.length c1_3] 28 ?_; intro g2 w2 b2 hb; replace B1 := bbl g1 hb; have B2 := am b2; replace HB := bst hb; clear hb b2; obtain ⟨⟨z0, z1, z2, z3⟩, f0, f1, f2, f3⟩ := cf4 B1.out) | (go_at_call 41; (with_reducible refine (profile_valid.calls k _ _ _ l0_1 _ _ l0_2 _ _ l0_3 t _ rdc aso rdc aso rdc aso A.out).mono ?_); rintro e w3 ⟨rfl, hb⟩; replace B2 := bbl g2 hb; replace HB := bst hb; clear hb z0 z1 z2 z3 f0 f1 f2 f3; obtain ⟨⟨z0, z1, z2, z3⟩, f0, f1, f2, f3⟩ := cf4 B2.out) | (go_at_call 41; obtain ⟨t2, A2, H⟩ := bE (bF H (by assumption)); refine (profile_valid.calls k _ _ _ l1_1 _ _ l1_2 _ _ l1_3 t2 _ rdc aso rdc aso rdc aso A2.out).mono ?_; rintro e w4 ⟨rfl, hb⟩; replace HB := bst hb; clear hb))
 ·obtain rfl := sj (bT H (by assumption))
  go_ret
  exact ⟨rr, bel⟩
 ·obtain rfl := sj H
  go_ret
  exact ⟨rr, bel⟩
end Go.Proofs.YtolenfcngomdfaaGreatDoor.V
