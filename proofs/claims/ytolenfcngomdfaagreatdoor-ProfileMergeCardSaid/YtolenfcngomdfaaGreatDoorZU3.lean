/- A part of the proof of the tied card of ProfileMerge (chapter 53): the law returns true whatever the input. -/
import Derived.Test.YtolenfcngomdfaaGreatDoorZU1
set_option linter.unusedVariables false
set_option linter.unusedSimpArgs false
namespace Go.Proofs.YtolenfcngomdfaaGreatDoor.V
open Go.RowKit Go.Proofs.YtolenfcngomdfaaGreatDoorW.PrintWords Go.Proofs.YtolenfcngomdfaaGreatDoorW.PrintLast Go.Proofs.YtolenfcngomdfaaGreatDoorW.PrintMore
set_option linter.unusedVariables false
set_option linter.unusedSimpArgs false
mutual
def ancepsref50_Key.l0 : Nat → ByteArray → Int → Option (Int)
 | 0, _, _ => none
 | k + 1, x0, x3 => if x3 < (x0.size : Int) then (if 0 ≤ x3 then (if (bt x0 x3) < 33 then (some 2) else (if (bt x0 x3) > 126 then (some 2) else (ancepsref50_Key.l0 k x0 (wrap64 (x3 + 1))))) else (none)) else (ancepsref50_Key.l1 k x0 0)
def ancepsref50_Key.l1 : Nat → ByteArray → Int → Option (Int)
 | 0, _, _ => none
 | k + 1, x0, x4 => if x4 ≤ (x0.size : Int) then (if x4 = 0 then (if x4 = (x0.size : Int) then (some 7) else (if 0 ≤ x4 then (if x4 < (x0.size : Int) then (if (bt x0 x4) = 47 then (some 7) else (ancepsref50_Key.l1 k x0 (wrap64 (x4 + 1)))) else (none)) else (none))) else (if 0 ≤ (wrap64 (x4 - 1)) then (if (wrap64 (x4 - 1)) < (x0.size : Int) then (if (bt x0 (wrap64 (x4 - 1))) = 47 then (if x4 = (x0.size : Int) then (some 7) else (if 0 ≤ x4 then (if x4 < (x0.size : Int) then (if (bt x0 x4) = 47 then (some 7) else (ancepsref50_Key.l1 k x0 (wrap64 (x4 + 1)))) else (none)) else (none))) else (ancepsref50_Key.l1 k x0 (wrap64 (x4 + 1)))) else (none)) else (none))) else (some 0)
end
def ancepsref50_Key.f (k : Nat) (a0 : ByteArray) : Option (Int) := if (a0.size : Int) > 60 then (some 3) else (ancepsref50_Key.l0 k a0 0)
set_option maxHeartbeats 8000000 in
set_option maxRecDepth 100000 in
theorem ancepsref50_Key.calls (k : Nat) (a0 : ByteArray) (r : Int) (w : World) (h : ancepsref50_Key.f k a0 = some r) :
  Calls Tryz.prog 285 #[.string a0] w fun e w' => e = .returned (.int .i64 r) ∧ Drawn0 w w' := by
 have H := am h
 clear h
 unfold ancepsref50_Key.f at H
 go_enter Tryz.func285, Tryz.ntmps285
 go_wp2
 ·obtain rfl := sj (iT H (by omega))
  go_ret
  exact ⟨rs, drw⟩
 ·replace H := iF H (by omega)
  go_loopg [3] k (fun kq v3 w' => ∃ x : Int, v3 = .int .i64 x ∧ Aside0 (ancepsref50_Key.l0 kq a0 x = some r) ∧ Aside0 (kq ≤ k) ∧ Drawn0 w w')
  case atStart => exact ⟨0, rs, H, ⟨Nat.le_refl _⟩, drw⟩
  case round =>
   clear H
   obtain ⟨x, rfl, H, HK, ⟨m, rfl⟩⟩ := hrel
   cases gk with
   | zero => exact absurd H.out (by simp [ancepsref50_Key.l0])
   | succ k1 =>
    simp only [ancepsref50_Key.l0] at H
    have hx := bt_at a0 x
    go_wp2
    ·obtain rfl := sj (iT (iF (jn (iT H (by omega))).2 (by omega)) (by omega))
     go_ret
     exact ⟨rs, drw⟩
    ·go_roundg k1
     case measure => omega
     case rel => exact ⟨wrap64 (x + 1), by rw [show wrap64 (x + 1) = x + 1 by unfold wrap64; omega], iF (iF (jn (iT H (by omega))).2 (by omega)) (by omega), ⟨by have := HK.out; omega⟩, drw⟩
    ·obtain rfl := sj (iT (jn (iT H (by omega))).2 (by omega))
     go_ret
     exact ⟨rs, drw⟩
    ·exact absurd (jn (iT H (by omega))).1 (by omega)
    ·replace H := iF H (by omega)
     clear hx
     go_loopg [4] k1 (fun kq v4 w' => ∃ y : Int, v4 = .int .i64 y ∧ Aside0 (ancepsref50_Key.l1 kq a0 y = some r) ∧ Aside0 (kq ≤ k1) ∧ Drawn0 w w')
     case atStart => exact ⟨0, rs, H, ⟨Nat.le_refl _⟩, drw⟩
     case round =>
      clear H
      obtain ⟨y, rfl, H, HK2, ⟨m2, rfl⟩⟩ := hrel
      cases gk with
      | zero => exact absurd H.out (by simp [ancepsref50_Key.l1])
      | succ k2 =>
       simp only [ancepsref50_Key.l1] at H
       have hy := bt_at a0 y
       by_cases e : y = 0
       ·subst e
        replace H := iT (iT H (by omega)) rfl
        go_wp2
        ·obtain rfl := sj (iT H (by assumption))
         go_ret
         exact ⟨rs, drw⟩
        ·obtain rfl := sj (iT (jn (jn (iF H (by assumption))).2).2 (by simp_all))
         go_ret
         exact ⟨rs, drw⟩
        ·go_roundg k2
         case measure => omega
         case rel =>
          have q : ¬ bt a0 0 = 47 := by clear H; simp_all
          exact ⟨wrap64 (0 + 1), by first | rfl | (simp; done) | (simp [wrap64]; done), iF (jn (jn (iF H (by assumption))).2).2 q, ⟨by have := HK2.out; omega⟩, drw⟩
       ·have D := fun q : y ≤ (a0.size : Int) => (jn (jn (iF (iT H q) e)).2).2
        have hz := bt_at a0 (wrap64 (y - 1))
        go_wp2
        ·obtain rfl := sj (iT (iT (D (by omega)) (by assumption)) (by assumption))
         go_ret
         exact ⟨rs, drw⟩
        ·obtain rfl := sj (iT (jn (jn (iF (iT (D (by omega)) (by assumption)) (by assumption))).2).2 (by simp_all))
         go_ret
         exact ⟨rs, drw⟩
        ·go_roundg k2
         case measure => omega
         case rel => exact ⟨wrap64 (y + 1), by first | rfl | rw [show wrap64 (y + 1) = y + 1 by unfold wrap64; omega], iF (jn (jn (iF (iT (D (by omega)) (by assumption)) (by assumption))).2).2 (by simp_all), ⟨by have := HK2.out; omega⟩, drw⟩
        ·have q := jn (iF (iT (D (by omega)) (by assumption)) (by assumption))
         exact absurd (And.intro q.1 (jn q.2).1) (by assumption)
        ·go_roundg k2
         case measure => omega
         case rel => exact ⟨wrap64 (y + 1), by first | rfl | rw [show wrap64 (y + 1) = y + 1 by unfold wrap64; omega], iF (D (by omega)) (by assumption), ⟨by have := HK2.out; omega⟩, drw⟩
        ·have q := jn (iF (iT H (by omega)) e)
         exact absurd (And.intro q.1 (jn q.2).1) (by assumption)
        ·obtain rfl := sj (iF H (by omega))
         go_ret
         exact ⟨rs, drw⟩
mutual
def ancepsref50_check.l0 : Nat → Int → List ByteArray → List Int → Option (Int × Int)
 | 0, _, _, _ => none
 | k + 1, x4, x150000, x150001 => if x4 < (x150000.length : Int) then (if 0 ≤ x4 then ((ancepsref50_Key.f k (rdOf ByteArray.empty x150000 x4)).bind fun t151 => (if t151 = 0 then (if x4 > 0 then (if 0 ≤ (wrap64 (x4 - 1)) then (if (wrap64 (x4 - 1)) < (x150000.length : Int) then (ancepsref50_check.j1 k x4 (!(Op.bytesLess ((rdOf ByteArray.empty x150000 (wrap64 (x4 - 1))).toList) ((rdOf ByteArray.empty x150000 x4).toList))) x150000 x150001) else (none)) else (none)) else (ancepsref50_check.j1 k x4 false x150000 x150001)) else (some (x4, t151)))) else (none)) else (some ((-1), 0))
def ancepsref50_check.j1 : Nat → Int → Bool → List ByteArray → List Int → Option (Int × Int)
 | 0, _, _, _, _ => none
 | k + 1, x4, x49, x150000, x150001 => if x49 = true then (some (x4, 18)) else (if 0 ≤ x4 then (if x4 < (x150001.length : Int) then (if (rd x150001 x4) < 1 then (some (x4, 6)) else (if (rd x150001 x4) > 1000000 then (some (x4, 6)) else (ancepsref50_check.l0 k (wrap64 (x4 + 1)) x150000 x150001))) else (none)) else (none))
end
def ancepsref50_check.f (k : Nat) (l0_0 : List ByteArray) (l0_1 : List Int) : Option (Int × Int) := if (l0_0.length : Int) = (l0_1.length : Int) then (if (l0_0.length : Int) > 2000 then (some ((-1), 3)) else (ancepsref50_check.l0 k 0 l0_0 l0_1)) else (some ((-1), 1))
set_option maxHeartbeats 8000000 in
set_option maxRecDepth 100000 in
theorem ancepsref50_check.calls (k : Nat) (A0_0 : Option Addr) (c0_0 : Nat) (l0_0 : List ByteArray) (A0_1 : Option Addr) (c0_1 : Nat) (l0_1 : List Int) (r1 : Int) (r2 : Int) (w : World) (hr0_0 : Kd.C Kd.string w A0_0 l0_0.length l0_0) (hc0_0 : l0_0.length ≤ c0_0) (hr0_1 : Kd.C (Kd.int .i64) w A0_1 l0_1.length l0_1) (hc0_1 : l0_1.length ≤ c0_1) (h : ancepsref50_check.f k l0_0 l0_1 = some (r1, r2)) :
  Calls Tryz.prog 193 #[.agg #[.slice A0_0 l0_0.length c0_0, .slice A0_1 l0_1.length c0_1]] w fun e w' => e = .returned (.tuple #[.int .i64 r1, .int .i64 r2]) ∧ Below w.heap.size w w' := by
 have hu26 := Tryz.underlying26
 have HB := am (Below.refl w.heap.size w)
 have H := am h
 clear h
 unfold ancepsref50_check.f at H
 have R0 := am hr0_0
 have R1 := am hr0_1
 clear hr0_0 hr0_1
 go_enter Tryz.func193, Tryz.ntmps193
 go_wp2_with (first | ((with_reducible refine gate_dst (N := 1) rfl ?_); refine bx 1 #[.slice A0_0 l0_0.length c0_0, .slice A0_1 l0_1.length c0_1] 26 ?_; intro g1 w1 b1 hb; have B1 := am b1; replace HB := bst hb; clear hb b1; obtain ⟨⟨z0, z1⟩, f0, f1⟩ := cf2 B1.out))
 ·obtain ⟨rfl, rfl⟩ := sj2 (iF H (bne_iff_ne.mp (by assumption)))
  go_ret2
  exact ⟨rr, bel⟩
 ·obtain ⟨rfl, rfl⟩ := sj2 (iT (iT H (bne_eq_false_iff_eq.mp (by assumption))) (by omega))
  go_ret2
  exact ⟨rr, bel⟩
 ·have q : ((l0_0.length : Int) != (l0_1.length : Int)) = false := by assumption
  replace H := iF (iT H (bne_eq_false_iff_eq.mp q)) (by omega)
  rw [q]
  go_loopg [4] k (fun kq v4 w' => ∃ x : Int, v4 = .int .i64 x ∧ Aside0 (ancepsref50_check.l0 kq x l0_0 l0_1 = some (r1, r2)) ∧ Aside0 (kq ≤ k) ∧ Aside0 (w'.heap[g1]? = some (.cells #[.slice A0_0 l0_0.length c0_0, .slice A0_1 l0_1.length c0_1] 26 (0, 0))) ∧ Aside0 (Below w.heap.size w w'))
  case atStart => exact ⟨0, rs, H, ⟨Nat.le_refl _⟩, ⟨skb⟩, ⟨bel⟩⟩
  case round =>
   clear H z0 z1 f0 f1
   obtain ⟨x, rfl, H, HK, B1, HB⟩ := hrel
   cases gk with
   | zero => exact absurd H.out (by simp [ancepsref50_check.l0])
   | succ k1 =>
    simp only [ancepsref50_check.l0] at H
    obtain ⟨⟨z0, z1⟩, f0, f1⟩ := cf2 B1.out
    by_cases c : x < (l0_0.length : Int)
    ·obtain ⟨c0, H⟩ := jn (iT H c)
     obtain ⟨t, A, H⟩ := bE H
     obtain ⟨ad, e1, hx⟩ := Kd.at_string R0.out x c0 c
     subst e1
     replace hx := (HB.out.cell (World.block_lt_of_cell? w _ hx)).trans hx
     by_cases c2 : t = 0
     ·replace H := iT H c2
      go_upto_region 11 with (first | (go_at_call 285; (with_reducible refine (ancepsref50_Key.calls k1 (rdOf ByteArray.empty l0_0 x) t _ A.out).mono ?_); rintro e w' ⟨rfl, ⟨nd, rfl⟩⟩))
      (try simp only [Act.put, List.setIfInBounds_toArray, List.set_cons_zero, List.set_cons_succ])
      go_cut [49] (fun v49 wc => ∃ (kq : Nat) (b : Bool), v49 = .bool b ∧ Aside0 (ancepsref50_check.j1 kq x b l0_0 l0_1 = some (r1, r2)) ∧ Aside0 (kq ≤ k1) ∧ Aside0 (wc.heap[g1]? = some (.cells #[.slice (some ad) l0_0.length c0_0, .slice A0_1 l0_1.length c0_1] 26 (0, 0))) ∧ Aside0 (Below w.heap.size w wc))
      case first =>
       have cq := fun x y W => geqS (P := Tryz.prog) 9 x y W
       have cq2 := fun x y W => leqS (P := Tryz.prog) 9 x y W
       by_cases c3 : x > 0
       ·have cb : decide (0 < x) = true := decide_eq_true c3
        first | rw [cb] | skip
        replace H := iT H c3
        obtain ⟨j, hj⟩ : ∃ j : Int, wrap64 (x - 1) = j := ⟨_, rfl⟩
        rw [hj] at H
        have hjw : IntKind.i64.wrap (x - 1) = j := (i64_w _).trans hj
        obtain ⟨d0, H⟩ := jn H
        obtain ⟨d1, H⟩ := jn H
        obtain ⟨ad2, e2, hx2⟩ := Kd.at_string R0.out j d0 d1
        obtain rfl : ad = ad2 := by injection e2
        replace hx2 := (HB.out.cell (World.block_lt_of_cell? w _ hx2)).trans hx2
        go_wp2
        repeat (go_quiet (fail); try go_wp2)
        go_meet
        case rel => exact ⟨_, _, rfl, H, ⟨Nat.le_refl _⟩, ⟨skb⟩, ⟨bel⟩⟩
       ·have cb : decide (0 < x) = false := decide_eq_false c3
        first | rw [cb] | skip
        go_wp2
        repeat (go_quiet (fail); try go_wp2)
        go_meet
        case rel => exact ⟨_, false, rs, iF H (by omega), ⟨Nat.le_refl _⟩, ⟨skb⟩, ⟨bel⟩⟩
      case rest =>
       clear H z0 z1 f0 f1 hx
       obtain ⟨kq, b, rfl, H, HJ, B1, HB⟩ := hcut
       cases kq with
       | zero => exact absurd H.out (by simp [ancepsref50_check.j1])
       | succ k2 =>
        simp only [ancepsref50_check.j1] at H
        obtain ⟨⟨z0, z1⟩, f0, f1⟩ := cf2 B1.out
        cases b
        rotate_left
        ·obtain ⟨rfl, rfl⟩ := sj2 (uT H rfl)
         go_wp2
         go_ret2
         exact ⟨rr, bel⟩
        ·obtain ⟨_, H⟩ := jn (uF H rfl)
         obtain ⟨d, H⟩ := jn H
         obtain ⟨ad2, e2, hx2⟩ := Kd.at_int R1.out x c0 d
         subst e2
         replace hx2 := (HB.out.cell (World.block_lt_of_cell? w _ hx2)).trans hx2
         go_wp2
         ·obtain ⟨rfl, rfl⟩ := sj2 (iT (iF H (by omega)) (by omega))
          go_ret2
          exact ⟨rr, bel⟩
         ·go_roundg k2
          case measure => have := HJ.out; omega
          case rel => exact ⟨wrap64 (x + 1), by rw [show wrap64 (x + 1) = x + 1 by unfold wrap64; omega], iF (iF H (by omega)) (by omega), ⟨by have := HK.out; have := HJ.out; omega⟩, ⟨skb⟩, ⟨bel⟩⟩
         ·obtain ⟨rfl, rfl⟩ := sj2 (iT H (by omega))
          go_ret2
          exact ⟨rr, bel⟩
     ·go_wp2_with (first | (go_at_call 285; (with_reducible refine (ancepsref50_Key.calls k1 (rdOf ByteArray.empty l0_0 x) t _ A.out).mono ?_); rintro e w' ⟨rfl, ⟨nd, rfl⟩⟩))
      obtain ⟨rfl, rfl⟩ := sj2 (iF H c2)
      go_ret2
      exact ⟨rr, bel⟩
    ·go_wp2
     obtain ⟨rfl, rfl⟩ := sj2 (iF H (by omega))
     go_ret2
     exact ⟨rr, bel⟩
def ancepsref50_Valid.f (k : Nat) (l0_0 : List ByteArray) (l0_1 : List Int) : Option (Int) := (ancepsref50_check.f k l0_0 l0_1).bind fun bt157 => (some bt157.2)
set_option maxHeartbeats 8000000 in
set_option maxRecDepth 100000 in
theorem ancepsref50_Valid.calls (k : Nat) (A0_0 : Option Addr) (c0_0 : Nat) (l0_0 : List ByteArray) (A0_1 : Option Addr) (c0_1 : Nat) (l0_1 : List Int) (r : Int) (w : World) (hr0_0 : Kd.C Kd.string w A0_0 l0_0.length l0_0) (hc0_0 : l0_0.length ≤ c0_0) (hr0_1 : Kd.C (Kd.int .i64) w A0_1 l0_1.length l0_1) (hc0_1 : l0_1.length ≤ c0_1) (h : ancepsref50_Valid.f k l0_0 l0_1 = some r) :
  Calls Tryz.prog 112 #[.agg #[.slice A0_0 l0_0.length c0_0, .slice A0_1 l0_1.length c0_1]] w fun e w' => e = .returned (.int .i64 r) ∧ Below w.heap.size w w' := by
 have hu26 := Tryz.underlying26
 have HR0_0 := Aside0.mk hr0_0
 have HC0_0 := Aside0.mk hc0_0
 clear hr0_0 hc0_0
 have HR0_1 := Aside0.mk hr0_1
 have HC0_1 := Aside0.mk hc0_1
 clear hr0_1 hc0_1
 have HB := Aside0.mk (Below.refl w.heap.size w)
 have H : ((ancepsref50_check.f k l0_0 l0_1).bind fun bt157 => (some bt157.2)) = some r := h
 clear h
 replace H := Option.bind_eq_some_iff.mp H
 obtain ⟨⟨t157, t158⟩, A20, H⟩ := H
 replace H : (some t158) = some r := H
 have A2 := Aside0.mk A20
 clear A20
 obtain rfl := Option.some.inj H
 go_enter Tryz.func112, Tryz.ntmps112
 go_wp2_with (first | ((with_reducible refine gate_dst (N := 1) rfl ?_); refine box_event ?hg (N := 1) ?hd (cs := #[.slice A0_0 l0_0.length c0_0, .slice A0_1 l0_1.length c0_1]) (t := 26) ?hr ?_; (case hd => rfl); (case hg => rfl); (case hr => first | (go_simp; done) | (go_simp; rfl)); intro gb156 hg w3 hbox hb; have n0_ := Aside0.mk (below_step bel hb); have n1_ := Aside0.mk (hbox); have n2_ := Aside0.mk ((by rw [hg]; exact (below_size bel) : w.heap.size ≤ gb156)); have n3_ := Aside0.mk ((by rw [hg]; exact (below_size bel) : w.heap.size ≤ gb156)); clear HB; have HB := n0_; have BK156 := n1_; have GW156 := n2_; have GE156 := n3_; clear n0_ n1_ n2_ n3_; clear hb hbox hg; have hcz4_0 : w3.cell? ⟨gb156, 0, none⟩ = some (.slice A0_0 l0_0.length c0_0) := (blk_cell BK156.out 0).trans rfl; have hcz4_1 : w3.cell? ⟨gb156, 1, none⟩ = some (.slice A0_1 l0_1.length c0_1) := (blk_cell BK156.out 1).trans rfl; have hfz4_0 := blk_frozen BK156.out 0; have hfz4_1 := blk_frozen BK156.out 1) | ((with_reducible refine gate_callee (f := 193) rfl ?_); refine goesL_ (some 7) rfl rfl Tryz.func193 (by kernel_rfl) rfl #[.agg #[.slice A0_0 l0_0.length c0_0, .slice A0_1 l0_1.length c0_1]] rfl arg ?_; (with_reducible refine (ancepsref50_check.calls k _ _ l0_0 _ _ l0_1 t157 t158 _ rdc aso rdc aso A2.out).mono ?_); rintro e w5 ⟨rfl, hb⟩; refine ⟨_, rfl, ?_⟩; have n0_ := Aside0.mk (blk_below (g := gb156) (o := .cells #[.slice A0_0 l0_0.length c0_0, .slice A0_1 l0_1.length c0_1] 26 (0, 0)) skb hb); have n1_ := Aside0.mk (below_step bel hb); clear BK156; clear HB; have BK156 := n0_; have HB := n1_; clear n0_ n1_; (try clear hb); (try clear hb2); (try clear hk); (try clear hi)))
 go_ret
 exact ⟨rr, bel⟩
end Go.Proofs.YtolenfcngomdfaaGreatDoor.V
namespace Go.Proofs.YtolenfcngomdfaaGreatDoor.V
open Go.RowKit Go.Proofs.YtolenfcngomdfaaGreatDoorW.PrintWords Go.Proofs.YtolenfcngomdfaaGreatDoorW.PrintLast Go.Proofs.YtolenfcngomdfaaGreatDoorW.PrintMore
set_option linter.unusedVariables false
set_option linter.unusedSimpArgs false
def ancepsref50_Get.l0 : Nat → ByteArray → Int → List ByteArray → List Int → Option (Int)
 | 0, _, _, _, _ => none
 | k + 1, x1, x5, x209000, x209001 => if x5 < (x209000.length : Int) then (if 0 ≤ x5 then (if (rdOf ByteArray.empty x209000 x5).toList = x1.toList then (if x5 < (x209001.length : Int) then (some (rd x209001 x5)) else (none)) else (ancepsref50_Get.l0 k x1 (wrap64 (x5 + 1)) x209000 x209001)) else (none)) else (some 0)
def ancepsref50_Get.f (k : Nat) (l0_0 : List ByteArray) (l0_1 : List Int) (a1 : ByteArray) : Option (Int) := ancepsref50_Get.l0 k a1 0 l0_0 l0_1
set_option maxHeartbeats 8000000 in
set_option maxRecDepth 100000 in
theorem ancepsref50_Get.calls (k : Nat) (A0_0 : Option Addr) (c0_0 : Nat) (l0_0 : List ByteArray) (A0_1 : Option Addr) (c0_1 : Nat) (l0_1 : List Int) (a1 : ByteArray) (r : Int) (w : World) (hr0_0 : Kd.C Kd.string w A0_0 l0_0.length l0_0) (hc0_0 : l0_0.length ≤ c0_0) (hr0_1 : Kd.C (Kd.int .i64) w A0_1 l0_1.length l0_1) (hc0_1 : l0_1.length ≤ c0_1) (h : ancepsref50_Get.f k l0_0 l0_1 a1 = some r) :
  Calls Tryz.prog 54 #[.agg #[.slice A0_0 l0_0.length c0_0, .slice A0_1 l0_1.length c0_1], .string a1] w fun e w' => e = .returned (.int .i64 r) ∧ Below w.heap.size w w' := by
 have hu26 := Tryz.underlying26
 have HR0_0 := Aside0.mk hr0_0
 have HC0_0 := Aside0.mk hc0_0
 clear hr0_0 hc0_0
 have HR0_1 := Aside0.mk hr0_1
 have HC0_1 := Aside0.mk hc0_1
 clear hr0_1 hc0_1
 have HB := Aside0.mk (Below.refl w.heap.size w)
 have H : (ancepsref50_Get.l0 k a1 0 l0_0 l0_1) = some r := h
 clear h
 have H' := Aside0.mk H
 clear H
 go_enter Tryz.func54, Tryz.ntmps54
 go_wp2_with (first | ((with_reducible refine gate_dst (N := 2) rfl ?_); refine box_event ?hg (N := 2) ?hd (cs := #[.slice A0_0 l0_0.length c0_0, .slice A0_1 l0_1.length c0_1]) (t := 26) ?hr ?_; (case hd => rfl); (case hg => rfl); (case hr => first | (go_simp; done) | (go_simp; rfl)); intro gb208 hg w3 hbox hb; have n0_ := Aside0.mk (below_step bel hb); have n1_ := Aside0.mk (hbox); have n2_ := Aside0.mk ((by rw [hg]; exact (below_size bel) : w.heap.size ≤ gb208)); have n3_ := Aside0.mk ((by rw [hg]; exact (below_size bel) : w.heap.size ≤ gb208)); clear HB; have HB := n0_; have BK208 := n1_; have GW208 := n2_; have GE208 := n3_; clear n0_ n1_ n2_ n3_; clear hb hbox hg))
 go_loopg [5] k (fun kq v5 w' => ∃ (x5_1 : Int), v5 = .int .i64 x5_1 ∧ Aside0 (ancepsref50_Get.l0 kq a1 x5_1 l0_0 l0_1 = some r) ∧ Aside0 (kq ≤ k) ∧ Aside0 (w'.heap[gb208]? = some (.cells #[(.slice A0_0 l0_0.length c0_0), (.slice A0_1 l0_1.length c0_1)] 26 (0, 0))) ∧ Aside0 (Below w.heap.size w w'))
 case atStart => exact ⟨(0), rs, H', ⟨Nat.le_refl _⟩, ⟨skb⟩, ⟨bel⟩⟩
 case round =>
  clear H'
  try clear p2
  obtain ⟨x5_1, rfl, HA, HK1, BK208, HB⟩ := hrel
  cases gk with
  | zero => exact absurd HA.out (by simp [ancepsref50_Get.l0])
  | succ k1 =>
   have H := HA.out
   clear HA
   simp only [ancepsref50_Get.l0] at H
   by_cases c4 : x5_1 < (l0_0.length : Int)
   ·rw [if_pos c4] at H
    have c4b0 : decide (x5_1 < (l0_0.length : Int)) = true := decide_eq_true c4
    clear c4
    by_cases c5 : 0 ≤ x5_1
    ·rw [if_pos c5] at H
     have c5b0 : decide (0 ≤ x5_1) = true := decide_eq_true c5
     clear c5
     by_cases c6 : (rdOf ByteArray.empty l0_0 x5_1).toList = a1.toList
     ·rw [if_pos c6] at H
      have c6b0 : ((rdOf ByteArray.empty l0_0 x5_1).toList == a1.toList) = true := beq_iff_eq.mpr c6
      have c6b1 : ((rdOf ByteArray.empty l0_0 x5_1).toList != a1.toList) = false := bne_eq_false_iff_eq.mpr c6
      clear c6
      by_cases c7 : x5_1 < (l0_1.length : Int)
      ·rw [if_pos c7] at H
       have c7b0 : decide (x5_1 < (l0_1.length : Int)) = true := decide_eq_true c7
       clear c7
       obtain rfl := Option.some.inj H
       have hcz8_0 : wr.cell? ⟨gb208, 0, none⟩ = some (.slice A0_0 l0_0.length c0_0) := (blk_cell BK208.out 0).trans rfl
       have hcz8_1 : wr.cell? ⟨gb208, 1, none⟩ = some (.slice A0_1 l0_1.length c0_1) := (blk_cell BK208.out 1).trans rfl
       have hfz8_0 := blk_frozen BK208.out 0
       have hfz8_1 := blk_frozen BK208.out 1
       have p209 : 0 ≤ (x5_1 : Int) := of_decide_eq_true asm
       have q209 : x5_1 < (l0_0.length : Int) := of_decide_eq_true asm
       obtain ⟨ad209, e209, hx209_0⟩ := Kd.at_string HR0_0.out x5_1 p209 q209
       cases e209
       replace hx209_0 := (HB.out.cell (World.block_lt_of_cell? w _ hx209_0)).trans hx209_0
       replace p209 := eq_true p209
       replace q209 := eq_true q209
       have p210 : 0 ≤ (x5_1 : Int) := of_decide_eq_true asm
       have q210 : x5_1 < (l0_1.length : Int) := of_decide_eq_true asm
       obtain ⟨ad210, e210, hx210_0⟩ := Kd.at_int HR0_1.out x5_1 p210 q210
       cases e210
       replace hx210_0 := (HB.out.cell (World.block_lt_of_cell? w _ hx210_0)).trans hx210_0
       replace p210 := eq_true p210
       replace q210 := eq_true q210
       go_wp2
       go_ret
       exact ⟨rr, bel⟩
      ·rw [if_neg c7] at H
       exact absurd H (by simp)
     ·rw [if_neg c6] at H
      have c6b0 : ((rdOf ByteArray.empty l0_0 x5_1).toList == a1.toList) = false := beq_eq_false_iff_ne.mpr c6
      have c6b1 : ((rdOf ByteArray.empty l0_0 x5_1).toList != a1.toList) = true := bne_iff_ne.mpr c6
      have H' := Aside0.mk H
      clear H
      have hcz9_0 : wr.cell? ⟨gb208, 0, none⟩ = some (.slice A0_0 l0_0.length c0_0) := (blk_cell BK208.out 0).trans rfl
      have hcz9_1 : wr.cell? ⟨gb208, 1, none⟩ = some (.slice A0_1 l0_1.length c0_1) := (blk_cell BK208.out 1).trans rfl
      have hfz9_0 := blk_frozen BK208.out 0
      have hfz9_1 := blk_frozen BK208.out 1
      have p209 : 0 ≤ (x5_1 : Int) := of_decide_eq_true asm
      have q209 : x5_1 < (l0_0.length : Int) := of_decide_eq_true asm
      obtain ⟨ad209, e209, hx209_0⟩ := Kd.at_string HR0_0.out x5_1 p209 q209
      cases e209
      replace hx209_0 := (HB.out.cell (World.block_lt_of_cell? w _ hx209_0)).trans hx209_0
      replace p209 := eq_true p209
      replace q209 := eq_true q209
      go_wp2
      go_roundg k1
      case measure => have := HK1.out; omega
      case rel => exact ⟨(wrap64 (x5_1 + 1)), rs, H', ⟨by have := HK1.out; omega⟩, ⟨skb⟩, ⟨bel⟩⟩
    ·rw [if_neg c5] at H
     exact absurd H (by simp)
   ·rw [if_neg c4] at H
    have c4b0 : decide (x5_1 < (l0_0.length : Int)) = false := decide_eq_false c4
    clear c4
    obtain rfl := Option.some.inj H
    have hcz10_0 : wr.cell? ⟨gb208, 0, none⟩ = some (.slice A0_0 l0_0.length c0_0) := (blk_cell BK208.out 0).trans rfl
    have hcz10_1 : wr.cell? ⟨gb208, 1, none⟩ = some (.slice A0_1 l0_1.length c0_1) := (blk_cell BK208.out 1).trans rfl
    have hfz10_0 := blk_frozen BK208.out 0
    have hfz10_1 := blk_frozen BK208.out 1
    go_wp2
    go_ret
    exact ⟨rr, bel⟩
end Go.Proofs.YtolenfcngomdfaaGreatDoor.V
