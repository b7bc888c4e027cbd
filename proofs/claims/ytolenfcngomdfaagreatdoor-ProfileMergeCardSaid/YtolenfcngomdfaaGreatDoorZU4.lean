/- A part of the proof of the tied card of ProfileMerge (chapter 53): the law returns true whatever the input. -/
import Derived.Test.YtolenfcngomdfaaGreatDoorZU1
set_option linter.unusedVariables false
set_option linter.unusedSimpArgs false
namespace Go.Proofs.YtolenfcngomdfaaGreatDoor.V
open Go.RowKit Go.Proofs.YtolenfcngomdfaaGreatDoorW.PrintWords Go.Proofs.YtolenfcngomdfaaGreatDoorW.PrintLast Go.Proofs.YtolenfcngomdfaaGreatDoorW.PrintMore
set_option linter.unusedVariables false
set_option linter.unusedSimpArgs false
mutual
def ancepsref50_Same.j0 : Nat → Bool → List ByteArray → List Int → List ByteArray → List Int → Option (Bool)
 | 0, _, _, _, _, _ => none
 | k + 1, x22, x254000, x254001, x255000, x255001 => if x22 = true then (some false) else (ancepsref50_Same.l0 k 0 x254000 x254001 x255000 x255001)
def ancepsref50_Same.l0 : Nat → Int → List ByteArray → List Int → List ByteArray → List Int → Option (Bool)
 | 0, _, _, _, _, _ => none
 | k + 1, x5, x254000, x254001, x255000, x255001 => if x5 < (x254000.length : Int) then (if 0 ≤ x5 then (if x5 < (x255000.length : Int) then (if (rdOf ByteArray.empty x254000 x5).toList = (rdOf ByteArray.empty x255000 x5).toList then (ancepsref50_Same.l0 k (wrap64 (x5 + 1)) x254000 x254001 x255000 x255001) else (some false)) else (none)) else (none)) else (ancepsref50_Same.l1 k 0 x254000 x254001 x255000 x255001)
def ancepsref50_Same.l1 : Nat → Int → List ByteArray → List Int → List ByteArray → List Int → Option (Bool)
 | 0, _, _, _, _, _ => none
 | k + 1, x6, x254000, x254001, x255000, x255001 => if x6 < (x254001.length : Int) then (if 0 ≤ x6 then (if x6 < (x255001.length : Int) then (if (rd x254001 x6) = (rd x255001 x6) then (ancepsref50_Same.l1 k (wrap64 (x6 + 1)) x254000 x254001 x255000 x255001) else (some false)) else (none)) else (none)) else (some true)
end
def ancepsref50_Same.f (k : Nat) (l0_0 : List ByteArray) (l0_1 : List Int) (l1_0 : List ByteArray) (l1_1 : List Int) : Option (Bool) := if (l0_0.length : Int) = (l1_0.length : Int) then (ancepsref50_Same.j0 k ((l0_1.length : Int) != (l1_1.length : Int)) l0_0 l0_1 l1_0 l1_1) else (ancepsref50_Same.j0 k true l0_0 l0_1 l1_0 l1_1)
set_option maxHeartbeats 8000000 in
set_option maxRecDepth 100000 in
theorem ancepsref50_Same.calls (k : Nat) (A0_0 : Option Addr) (c0_0 : Nat) (l0_0 : List ByteArray) (A0_1 : Option Addr) (c0_1 : Nat) (l0_1 : List Int) (A1_0 : Option Addr) (c1_0 : Nat) (l1_0 : List ByteArray) (A1_1 : Option Addr) (c1_1 : Nat) (l1_1 : List Int) (r : Bool) (w : World) (hr0_0 : Kd.C Kd.string w A0_0 l0_0.length l0_0) (hc0_0 : l0_0.length ≤ c0_0) (hr0_1 : Kd.C (Kd.int .i64) w A0_1 l0_1.length l0_1) (hc0_1 : l0_1.length ≤ c0_1) (hr1_0 : Kd.C Kd.string w A1_0 l1_0.length l1_0) (hc1_0 : l1_0.length ≤ c1_0) (hr1_1 : Kd.C (Kd.int .i64) w A1_1 l1_1.length l1_1) (hc1_1 : l1_1.length ≤ c1_1) (h : ancepsref50_Same.f k l0_0 l0_1 l1_0 l1_1 = some r) :
  Calls Tryz.prog 28 #[.agg #[.slice A0_0 l0_0.length c0_0, .slice A0_1 l0_1.length c0_1], .agg #[.slice A1_0 l1_0.length c1_0, .slice A1_1 l1_1.length c1_1]] w fun e w' => e = .returned (.bool r) ∧ Below w.heap.size w w' := by
 have hu26 := Tryz.underlying26
 have HB := am (Below.refl w.heap.size w)
 have H := am h
 clear h
 unfold ancepsref50_Same.f at H
 have R0 := am hr0_0
 have R1 := am hr0_1
 have R2 := am hr1_0
 have R3 := am hr1_1
 clear hr0_0 hr0_1 hr1_0 hr1_1 hc0_0 hc0_1 hc1_0 hc1_1
 go_enter Tryz.func28, Tryz.ntmps28
 go_upto_region 1 with (first | ((with_reducible refine gate_dst (N := 2) rfl ?_); (try (refine gate_guard (by rfl) ?_; dsimp only)); refine bx 2 #[.slice A0_0 l0_0.length c0_0, .slice A0_1 l0_1.length c0_1] 26 ?_; intro g1 w2 b hb; have B1 := am b; replace HB := bst hb; clear hb b) | ((with_reducible refine gate_dst (N := 3) rfl ?_); (try (refine gate_guard (by rfl) ?_; dsimp only)); refine bx 3 #[.slice A1_0 l1_0.length c1_0, .slice A1_1 l1_1.length c1_1] 26 ?_; intro g2 w3 b hb; replace B1 := bbl g1 hb; have B2 := am b; replace HB := bst hb; clear hb b; obtain ⟨⟨z0, z1⟩, f0, f1⟩ := cf2 B1.out; obtain ⟨⟨z2, z3⟩, f2, f3⟩ := cf2 B2.out))
 go_cut [22] (fun v22 wc => ∃ (kq : Nat) (b : Bool), v22 = .bool b ∧ Aside0 (ancepsref50_Same.j0 kq b l0_0 l0_1 l1_0 l1_1 = some r) ∧ Aside0 (kq ≤ k) ∧ Aside0 (wc.heap[g1]? = some (.cells #[.slice A0_0 l0_0.length c0_0, .slice A0_1 l0_1.length c0_1] 26 (0, 0))) ∧ Aside0 (wc.heap[g2]? = some (.cells #[.slice A1_0 l1_0.length c1_0, .slice A1_1 l1_1.length c1_1] 26 (0, 0))) ∧ Aside0 (Below w.heap.size w wc))
 case first =>
  go_wp2
  ·go_meet
   case rel => exact ⟨_, _, rfl, iT H (by assumption), ⟨Nat.le_refl _⟩, ⟨skb⟩, ⟨skb⟩, ⟨bel⟩⟩
  ·go_meet
   case rel => exact ⟨_, true, rs, iF H (by assumption), ⟨Nat.le_refl _⟩, ⟨skb⟩, ⟨skb⟩, ⟨bel⟩⟩
 case rest =>
  clear H z0 z1 z2 z3 f0 f1 f2 f3
  obtain ⟨kq, b, rfl, H, HJ, B1, B2, HB⟩ := hcut
  obtain ⟨⟨z0, z1⟩, f0, f1⟩ := cf2 B1.out
  obtain ⟨⟨z2, z3⟩, f2, f3⟩ := cf2 B2.out
  cases kq with
  | zero => exact absurd H.out (by simp [ancepsref50_Same.j0])
  | succ kj =>
   simp only [ancepsref50_Same.j0] at H
   cases b
   rotate_left
   ·obtain rfl := sj (uT H rfl)
    go_wp2
    go_ret
    exact ⟨rr, bel⟩
   ·replace H := uF H rfl
    go_wp2
    go_loopg [5] kj (fun kq v5 w' => ∃ x : Int, v5 = .int .i64 x ∧ Aside0 (ancepsref50_Same.l0 kq x l0_0 l0_1 l1_0 l1_1 = some r) ∧ Aside0 (kq ≤ kj) ∧ Aside0 (w'.heap[g1]? = some (.cells #[.slice A0_0 l0_0.length c0_0, .slice A0_1 l0_1.length c0_1] 26 (0, 0))) ∧ Aside0 (w'.heap[g2]? = some (.cells #[.slice A1_0 l1_0.length c1_0, .slice A1_1 l1_1.length c1_1] 26 (0, 0))) ∧ Aside0 (Below w.heap.size w w'))
    case atStart => exact ⟨0, rs, H, ⟨Nat.le_refl _⟩, ⟨skb⟩, ⟨skb⟩, ⟨bel⟩⟩
    case round =>
     clear H z0 z1 z2 z3 f0 f1 f2 f3
     obtain ⟨x, rfl, H, HK, B1, B2, HB⟩ := hrel
     obtain ⟨⟨z0, z1⟩, f0, f1⟩ := cf2 B1.out
     obtain ⟨⟨z2, z3⟩, f2, f3⟩ := cf2 B2.out
     cases gk with
     | zero => exact absurd H.out (by simp [ancepsref50_Same.l0])
     | succ k1 =>
      simp only [ancepsref50_Same.l0] at H
      by_cases c : x < (l0_0.length : Int)
      ·obtain ⟨c0, H⟩ := jn (iT H c)
       obtain ⟨c1, H⟩ := jn H
       obtain ⟨ad, e1, hx⟩ := Kd.at_string R0.out x c0 c
       cases e1
       replace hx := (HB.out.cell (World.block_lt_of_cell? w _ hx)).trans hx
       obtain ⟨ad2, e2, hx2⟩ := Kd.at_string R2.out x c0 c1
       cases e2
       replace hx2 := (HB.out.cell (World.block_lt_of_cell? w _ hx2)).trans hx2
       go_wp2
       repeat (go_quiet (fail); try go_wp2)
       ·have q : (!((rdOf ByteArray.empty l0_0 x).toList == (rdOf ByteArray.empty l1_0 x).toList)) = true := by assumption
        obtain rfl := sj (iF H (by simpa using q))
        go_ret
        exact ⟨rr, bel⟩
       ·have q : (!((rdOf ByteArray.empty l0_0 x).toList == (rdOf ByteArray.empty l1_0 x).toList)) = false := by assumption
        go_roundg k1
        case measure => omega
        case rel => exact ⟨_, rs, iT H (by simpa using q), ⟨by have := HK.out; omega⟩, ⟨skb⟩, ⟨skb⟩, ⟨bel⟩⟩
      ·replace H := iF H c
       go_wp2
       go_loopg [6] k1 (fun kq v6 w' => ∃ x : Int, v6 = .int .i64 x ∧ Aside0 (ancepsref50_Same.l1 kq x l0_0 l0_1 l1_0 l1_1 = some r) ∧ Aside0 (kq ≤ k1) ∧ Aside0 (w'.heap[g1]? = some (.cells #[.slice A0_0 l0_0.length c0_0, .slice A0_1 l0_1.length c0_1] 26 (0, 0))) ∧ Aside0 (w'.heap[g2]? = some (.cells #[.slice A1_0 l1_0.length c1_0, .slice A1_1 l1_1.length c1_1] 26 (0, 0))) ∧ Aside0 (Below w.heap.size w w'))
       case atStart => exact ⟨0, rs, H, ⟨Nat.le_refl _⟩, ⟨skb⟩, ⟨skb⟩, ⟨bel⟩⟩
       case round =>
        clear H z0 z1 z2 z3 f0 f1 f2 f3
        obtain ⟨y, rfl, H, HK2, B1, B2, HB⟩ := hrel
        obtain ⟨⟨z0, z1⟩, f0, f1⟩ := cf2 B1.out
        obtain ⟨⟨z2, z3⟩, f2, f3⟩ := cf2 B2.out
        cases gk with
        | zero => exact absurd H.out (by simp [ancepsref50_Same.l1])
        | succ k2 =>
         simp only [ancepsref50_Same.l1] at H
         by_cases c2 : y < (l0_1.length : Int)
         ·obtain ⟨c0, H⟩ := jn (iT H c2)
          obtain ⟨c1, H⟩ := jn H
          obtain ⟨ad, e1, hx⟩ := Kd.at_int R1.out y c0 c2
          cases e1
          replace hx := (HB.out.cell (World.block_lt_of_cell? w _ hx)).trans hx
          obtain ⟨ad2, e2, hx2⟩ := Kd.at_int R3.out y c0 c1
          cases e2
          replace hx2 := (HB.out.cell (World.block_lt_of_cell? w _ hx2)).trans hx2
          go_wp2
          repeat (go_quiet (fail); try go_wp2)
          ·obtain rfl := sj (bT H (by assumption))
           go_ret
           exact ⟨rr, bel⟩
          ·go_roundg k2
           case measure => omega
           case rel => exact ⟨_, rs, bF H (by assumption), ⟨by have := HK2.out; omega⟩, ⟨skb⟩, ⟨skb⟩, ⟨bel⟩⟩
         ·obtain rfl := sj (iF H c2)
          go_wp2
          go_ret
          exact ⟨rr, bel⟩
end Go.Proofs.YtolenfcngomdfaaGreatDoor.V
namespace Go.Proofs.YtolenfcngomdfaaGreatDoor.V
open Go.RowKit Go.Proofs.YtolenfcngomdfaaGreatDoorW.PrintWords Go.Proofs.YtolenfcngomdfaaGreatDoorW.PrintLast Go.Proofs.YtolenfcngomdfaaGreatDoorW.PrintMore
set_option linter.unusedVariables false
set_option linter.unusedSimpArgs false
attribute [local go_sem high] eqA72
mutual
def ancepsref53_Same.j0 : Nat → Bool → ByteArray → List (S72) → List ByteArray → List Int → ByteArray → List (S72) → List ByteArray → List Int → Option (Bool)
 | 0, _, _, _, _, _, _, _, _, _ => none
 | k + 1, x27, x260000, x260001, x260002, x260003, x261000, x261001, x261002, x261003 => if x27 = true then (some false) else (ancepsref53_Same.l0 k 0 x260000 x260001 x260002 x260003 x261000 x261001 x261002 x261003)
def ancepsref53_Same.l0 : Nat → Int → ByteArray → List (S72) → List ByteArray → List Int → ByteArray → List (S72) → List ByteArray → List Int → Option (Bool)
 | 0, _, _, _, _, _, _, _, _, _ => none
 | k + 1, x5, x260000, x260001, x260002, x260003, x261000, x261001, x261002, x261003 => if x5 < (x260001.length : Int) then (if 0 ≤ x5 then (if x5 < (x261001.length : Int) then (if (!((((rd_T72 x260001 x5).f0).toList) == (((rd_T72 x261001 x5).f0).toList)) || (!((((rd_T72 x260001 x5).f1).toList) == (((rd_T72 x261001 x5).f1).toList)))) = true then (some false) else (ancepsref53_Same.l0 k (wrap64 (x5 + 1)) x260000 x260001 x260002 x260003 x261000 x261001 x261002 x261003)) else (none)) else (none)) else (some true)
end
def ancepsref53_Same.f (k : Nat) (a0_0 : ByteArray) (l0_1 : List (S72)) (l0_2 : List ByteArray) (l0_3 : List Int) (a1_0 : ByteArray) (l1_1 : List (S72)) (l1_2 : List ByteArray) (l1_3 : List Int) : Option (Bool) := if a0_0.toList = a1_0.toList then (if (l0_1.length : Int) = (l1_1.length : Int) then ((ancepsref50_Same.f k l0_2 l0_3 l1_2 l1_3).bind fun t261 => (ancepsref53_Same.j0 k (!t261) a0_0 l0_1 l0_2 l0_3 a1_0 l1_1 l1_2 l1_3)) else (ancepsref53_Same.j0 k true a0_0 l0_1 l0_2 l0_3 a1_0 l1_1 l1_2 l1_3)) else (ancepsref53_Same.j0 k true a0_0 l0_1 l0_2 l0_3 a1_0 l1_1 l1_2 l1_3)
set_option maxHeartbeats 8000000 in
set_option maxRecDepth 100000 in
theorem ancepsref53_Same.calls (k : Nat) (a0_0 : ByteArray) (A0_1 : Option Addr) (c0_1 : Nat) (l0_1 : List (S72)) (A0_2 : Option Addr) (c0_2 : Nat) (l0_2 : List ByteArray) (A0_3 : Option Addr) (c0_3 : Nat) (l0_3 : List Int) (a1_0 : ByteArray) (A1_1 : Option Addr) (c1_1 : Nat) (l1_1 : List (S72)) (A1_2 : Option Addr) (c1_2 : Nat) (l1_2 : List ByteArray) (A1_3 : Option Addr) (c1_3 : Nat) (l1_3 : List Int) (r : Bool) (w : World) (hr0_1 : Kd.C k72 w A0_1 l0_1.length l0_1) (hc0_1 : l0_1.length ≤ c0_1) (hr0_2 : Kd.C Kd.string w A0_2 l0_2.length l0_2) (hc0_2 : l0_2.length ≤ c0_2) (hr0_3 : Kd.C (Kd.int .i64) w A0_3 l0_3.length l0_3) (hc0_3 : l0_3.length ≤ c0_3) (hr1_1 : Kd.C k72 w A1_1 l1_1.length l1_1) (hc1_1 : l1_1.length ≤ c1_1) (hr1_2 : Kd.C Kd.string w A1_2 l1_2.length l1_2) (hc1_2 : l1_2.length ≤ c1_2) (hr1_3 : Kd.C (Kd.int .i64) w A1_3 l1_3.length l1_3) (hc1_3 : l1_3.length ≤ c1_3) (h : ancepsref53_Same.f k a0_0 l0_1 l0_2 l0_3 a1_0 l1_1 l1_2 l1_3 = some r) :
  Calls Tryz.prog 9 #[.agg #[.string a0_0, .slice A0_1 l0_1.length c0_1, .slice A0_2 l0_2.length c0_2, .slice A0_3 l0_3.length c0_3], .agg #[.string a1_0, .slice A1_1 l1_1.length c1_1, .slice A1_2 l1_2.length c1_2, .slice A1_3 l1_3.length c1_3]] w fun e w' => e = .returned (.bool r) ∧ Below w.heap.size w w' := by
 have hu28 := Tryz.underlying28
 have hu72 := Tryz.underlying72
 have HB := am (Below.refl w.heap.size w)
 have H := am h
 clear h
 unfold ancepsref53_Same.f at H
 have R1 := am hr0_1
 have R2 := am hr0_2
 have R3 := am hr0_3
 have Q1 := am hr1_1
 have Q2 := am hr1_2
 have Q3 := am hr1_3
 have C2 := am hc0_2
 have C3 := am hc0_3
 have D2 := am hc1_2
 have D3 := am hc1_3
 clear hr0_1 hr0_2 hr0_3 hr1_1 hr1_2 hr1_3 hc0_1 hc0_2 hc0_3 hc1_1 hc1_2 hc1_3
 go_enter Tryz.func9, Tryz.ntmps9
 go_upto_region 1 with (first | ((with_reducible refine gate_dst (N := 2) rfl ?_); (try (refine gate_guard (by rfl) ?_; dsimp only)); refine bx 2 #[.string a0_0, .slice A0_1 l0_1.length c0_1, .slice A0_2 l0_2.length c0_2, .slice A0_3 l0_3.length c0_3] 28 ?_; intro g1 w2 b hb; have B1 := am b; replace HB := bst hb; clear hb b) | ((with_reducible refine gate_dst (N := 3) rfl ?_); (try (refine gate_guard (by rfl) ?_; dsimp only)); refine bx 3 #[.string a1_0, .slice A1_1 l1_1.length c1_1, .slice A1_2 l1_2.length c1_2, .slice A1_3 l1_3.length c1_3] 28 ?_; intro g2 w3 b hb; replace B1 := bbl g1 hb; have B2 := am b; replace HB := bst hb; clear hb b; obtain ⟨⟨z0, z1, z2, z3⟩, f0, f1, f2, f3⟩ := cf4 B1.out; obtain ⟨⟨y0, y1, y2, y3⟩, e0, e1, e2, e3⟩ := cf4 B2.out))
 go_cut [27] (fun v27 wc => ∃ (kq : Nat) (b : Bool), v27 = .bool b ∧ Aside0 (ancepsref53_Same.j0 kq b a0_0 l0_1 l0_2 l0_3 a1_0 l1_1 l1_2 l1_3 = some r) ∧ Aside0 (kq ≤ k) ∧ Aside0 (wc.heap[g1]? = some (.cells #[.string a0_0, .slice A0_1 l0_1.length c0_1, .slice A0_2 l0_2.length c0_2, .slice A0_3 l0_3.length c0_3] 28 (0, 0))) ∧ Aside0 (wc.heap[g2]? = some (.cells #[.string a1_0, .slice A1_1 l1_1.length c1_1, .slice A1_2 l1_2.length c1_2, .slice A1_3 l1_3.length c1_3] 28 (0, 0))) ∧ Aside0 (Below w.heap.size w wc))
 case first =>
  go_wp2_with (first | (go_at_call 28; obtain ⟨t, A, H⟩ := bE (iT (iT H (by assumption)) (by assumption)); refine (ancepsref50_Same.calls k _ _ l0_2 _ _ l0_3 _ _ l1_2 _ _ l1_3 t _ rdc aso rdc aso rdc aso rdc aso A.out).mono ?_; rintro e w4 ⟨rfl, hb⟩; replace B1 := bbl g1 hb; replace B2 := bbl g2 hb; replace HB := bst hb; clear hb z0 z1 z2 z3 f0 f1 f2 f3 y0 y1 y2 y3 e0 e1 e2 e3))
  ·go_meet
   case rel => exact ⟨_, !t, rs, H, ⟨Nat.le_refl _⟩, ⟨skb⟩, ⟨skb⟩, ⟨bel⟩⟩
  ·go_meet
   case rel => exact ⟨_, true, rs, iF (iT H (by assumption)) (by assumption), ⟨Nat.le_refl _⟩, ⟨skb⟩, ⟨skb⟩, ⟨bel⟩⟩
  ·go_meet
   case rel => exact ⟨_, true, rs, iF H (by assumption), ⟨Nat.le_refl _⟩, ⟨skb⟩, ⟨skb⟩, ⟨bel⟩⟩
 case rest =>
  clear H z0 z1 z2 z3 f0 f1 f2 f3 y0 y1 y2 y3 e0 e1 e2 e3
  obtain ⟨kq, b, rfl, H, HJ, B1, B2, HB⟩ := hcut
  obtain ⟨⟨z0, z1, z2, z3⟩, f0, f1, f2, f3⟩ := cf4 B1.out
  obtain ⟨⟨y0, y1, y2, y3⟩, e0, e1, e2, e3⟩ := cf4 B2.out
  cases kq with
  | zero => exact absurd H.out (by simp [ancepsref53_Same.j0])
  | succ kj =>
   simp only [ancepsref53_Same.j0] at H
   cases b
   rotate_left
   ·obtain rfl := sj (uT H rfl)
    go_wp2
    go_ret
    exact ⟨rr, bel⟩
   ·replace H := uF H rfl
    go_wp2
    go_loopg [5] kj (fun kq v5 w' => ∃ x : Int, v5 = .int .i64 x ∧ Aside0 (ancepsref53_Same.l0 kq x a0_0 l0_1 l0_2 l0_3 a1_0 l1_1 l1_2 l1_3 = some r) ∧ Aside0 (kq ≤ kj) ∧ Aside0 (w'.heap[g1]? = some (.cells #[.string a0_0, .slice A0_1 l0_1.length c0_1, .slice A0_2 l0_2.length c0_2, .slice A0_3 l0_3.length c0_3] 28 (0, 0))) ∧ Aside0 (w'.heap[g2]? = some (.cells #[.string a1_0, .slice A1_1 l1_1.length c1_1, .slice A1_2 l1_2.length c1_2, .slice A1_3 l1_3.length c1_3] 28 (0, 0))) ∧ Aside0 (Below w.heap.size w w'))
    case atStart => exact ⟨0, rs, H, ⟨Nat.le_refl _⟩, ⟨skb⟩, ⟨skb⟩, ⟨bel⟩⟩
    case round =>
     clear H z0 z1 z2 z3 f0 f1 f2 f3 y0 y1 y2 y3 e0 e1 e2 e3
     obtain ⟨x, rfl, H, HK, B1, B2, HB⟩ := hrel
     obtain ⟨⟨z0, z1, z2, z3⟩, f0, f1, f2, f3⟩ := cf4 B1.out
     obtain ⟨⟨y0, y1, y2, y3⟩, e0, e1, e2, e3⟩ := cf4 B2.out
     cases gk with
     | zero => exact absurd H.out (by simp [ancepsref53_Same.l0])
     | succ k1 =>
      simp only [ancepsref53_Same.l0] at H
      by_cases c : x < (l0_1.length : Int)
      ·obtain ⟨c0, H⟩ := jn (iT H c)
       obtain ⟨c1, H⟩ := jn H
       obtain ⟨ad, q1, hx, hx1⟩ := at_T72 R1.out x c0 c
       cases q1
       replace hx := (HB.out.cell (World.block_lt_of_cell? w _ hx)).trans hx
       replace hx1 := (HB.out.cell (World.block_lt_of_cell? w _ hx1)).trans hx1
       obtain ⟨ad2, q2, hy, hy1⟩ := at_T72 Q1.out x c0 c1
       cases q2
       replace hy := (HB.out.cell (World.block_lt_of_cell? w _ hy)).trans hy
       replace hy1 := (HB.out.cell (World.block_lt_of_cell? w _ hy1)).trans hy1
       go_wp2
       repeat (go_quiet (fail); try go_wp2)
       ·obtain rfl := sj (iT H (by first | assumption | simp_all))
        go_ret
        exact ⟨rr, bel⟩
       ·go_roundg k1
        case measure => omega
        case rel => exact ⟨_, rs, iF H (by first | exact Bool.eq_false_iff.mp (by assumption) | simp_all), ⟨by have := HK.out; omega⟩, ⟨skb⟩, ⟨skb⟩, ⟨bel⟩⟩
      ·obtain rfl := sj (iF H c)
       go_wp2
       go_ret
       exact ⟨rr, bel⟩
def token_small.f (a0 : Int) : Option (Bool) := if a0 ≥ 97 then (some (decide (a0 ≤ 122))) else (some false)
set_option maxHeartbeats 8000000 in
set_option maxRecDepth 100000 in
theorem token_small.calls (a0 : Int) (r : Bool) (w : World) (h : token_small.f a0 = some r) :
  Calls Tryz.prog 169 #[.int .u8 a0] w fun e w' => e = .returned (.bool r) ∧ Drawn0 w w' := by
 have H : (if a0 ≥ 97 then (some (decide (a0 ≤ 122))) else (some false)) = some r := h
 clear h
 by_cases c2 : a0 ≥ 97
 ·rw [if_pos c2] at H
  have c2b0 : decide (97 ≤ a0) = true := decide_eq_true c2
  clear c2
  obtain rfl := Option.some.inj H
  go_enter Tryz.func169, Tryz.ntmps169
  go_wp2
  go_ret
  exact ⟨rs, drw⟩
 ·rw [if_neg c2] at H
  have c2b0 : decide (97 ≤ a0) = false := decide_eq_false c2
  clear c2
  obtain rfl := Option.some.inj H
  go_enter Tryz.func169, Tryz.ntmps169
  go_wp2
  go_ret
  exact ⟨rs, drw⟩
def token_digit.f (a0 : Int) : Option (Bool) := if a0 ≥ 48 then (some (decide (a0 ≤ 57))) else (some false)
set_option maxHeartbeats 8000000 in
set_option maxRecDepth 100000 in
theorem token_digit.calls (a0 : Int) (r : Bool) (w : World) (h : token_digit.f a0 = some r) :
  Calls Tryz.prog 170 #[.int .u8 a0] w fun e w' => e = .returned (.bool r) ∧ Drawn0 w w' := by
 have H : (if a0 ≥ 48 then (some (decide (a0 ≤ 57))) else (some false)) = some r := h
 clear h
 by_cases c2 : a0 ≥ 48
 ·rw [if_pos c2] at H
  have c2b0 : decide (48 ≤ a0) = true := decide_eq_true c2
  clear c2
  obtain rfl := Option.some.inj H
  go_enter Tryz.func170, Tryz.ntmps170
  go_wp2
  go_ret
  exact ⟨rs, drw⟩
 ·rw [if_neg c2] at H
  have c2b0 : decide (48 ≤ a0) = false := decide_eq_false c2
  clear c2
  obtain rfl := Option.some.inj H
  go_enter Tryz.func170, Tryz.ntmps170
  go_wp2
  go_ret
  exact ⟨rs, drw⟩
end Go.Proofs.YtolenfcngomdfaaGreatDoor.V
