/- A part of the proof of the tied card of ProfileMerge (chapter 53): the law returns true whatever the input. -/
import Derived.Test.YtolenfcngomdfaaGreatDoorZU1
import Derived.Test.YtolenfcngomdfaaGreatDoorZU4
set_option linter.unusedVariables false
set_option linter.unusedSimpArgs false
namespace Go.Proofs.YtolenfcngomdfaaGreatDoor.V
open Go.RowKit Go.Proofs.YtolenfcngomdfaaGreatDoorW.PrintWords Go.Proofs.YtolenfcngomdfaaGreatDoorW.PrintLast Go.Proofs.YtolenfcngomdfaaGreatDoorW.PrintMore
set_option linter.unusedVariables false
set_option linter.unusedSimpArgs false
mutual
def token_name.j0 : Nat → ByteArray → Bool → Option (Int)
 | 0, _, _ => none
 | k + 1, x0, x12 => if x12 = true then (some 0) else (token_name.l0 k x0 1)
def token_name.l0 : Nat → ByteArray → Int → Option (Int)
 | 0, _, _ => none
 | k + 1, x0, x3 => if x3 < (x0.size : Int) then (if 0 ≤ x3 then ((token_small.f (bt x0 x3)).bind fun t265 => (if t265 = true then (token_name.j2 k x0 x3 (bt x0 x3) true) else ((token_digit.f (bt x0 x3)).bind fun t266 => (token_name.j2 k x0 x3 (bt x0 x3) t266)))) else (none)) else (some x3)
def token_name.j2 : Nat → ByteArray → Int → Int → Bool → Option (Int)
 | 0, _, _, _, _ => none
 | k + 1, x0, x3, x4, x21 => if x21 = true then (token_name.l0 k x0 (wrap64 (x3 + 1))) else (if x4 = 45 then (if (wrap64 (x3 + 1)) < (x0.size : Int) then (if 0 ≤ (wrap64 (x3 + 1)) then ((token_small.f (bt x0 (wrap64 (x3 + 1)))).bind fun t267 => (if t267 = true then (token_name.l0 k x0 (wrap64 (x3 + 2))) else ((token_digit.f (bt x0 (wrap64 (x3 + 1)))).bind fun t268 => (if t268 = true then (token_name.l0 k x0 (wrap64 (x3 + 2))) else (some x3))))) else (none)) else (some x3)) else (some x3))
end
def token_name.f (k : Nat) (a0 : ByteArray) : Option (Int) := if a0.toList = ([] : List UInt8) then (token_name.j0 k a0 true) else (if 0 < (a0.size : Int) then ((token_small.f (bt a0 0)).bind fun t264 => (token_name.j0 k a0 (!t264))) else (none))
set_option maxHeartbeats 8000000 in
set_option maxRecDepth 100000 in
theorem token_name.calls (k : Nat) (a0 : ByteArray) (r : Int) (w : World) (h : token_name.f k a0 = some r) :
  Calls Tryz.prog 96 #[.string a0] w fun e w' => e = .returned (.int .i64 r) ∧ Drawn0 w w' := by
 have H := am h
 clear h
 unfold token_name.f at H
 go_enter Tryz.func96, Tryz.ntmps96
 go_upto_region 1 with (fail)
 go_cut [12] (fun v11 wc => ∃ (kq : Nat) (b : Bool), v11 = .bool b ∧ Aside0 (token_name.j0 kq a0 b = some r) ∧ Aside0 (kq ≤ k) ∧ Drawn0 w wc)
 case first =>
  have hx : ∀ h : 0 < a0.size, ((a0[0]'h).toNat : Int) = bt a0 0 := bt_at a0 0
  go_wp2_with (first | (go_at_call 169; obtain ⟨t, A, H⟩ := bE (jn (iF H (by assumption))).2; (with_reducible refine (token_small.calls (bt a0 0) t _ A.out).mono ?_); rintro e w' ⟨rfl, ⟨nd, rfl⟩⟩))
  ·go_meet
   case rel => exact ⟨_, true, rs, iT H (by assumption), ⟨Nat.le_refl _⟩, drw⟩
  ·go_meet
   case rel => exact ⟨_, !t, rs, H, ⟨Nat.le_refl _⟩, drw⟩
  ·exact absurd (jn (iF H (by assumption))).1 (by omega)
 case rest =>
  clear H
  obtain ⟨kq, b, rfl, H, HJ, ⟨mc, rfl⟩⟩ := hcut
  cases kq with
  | zero => exact absurd H.out (by simp [token_name.j0])
  | succ kj =>
   simp only [token_name.j0] at H
   cases b
   rotate_left
   ·obtain rfl := sj (uT H rfl)
    go_wp2
    go_ret
    exact ⟨rs, drw⟩
   ·go_wp2
    go_loopg [3] kj (fun kq v3 w' => ∃ x : Int, v3 = .int .i64 x ∧ Aside0 (token_name.l0 kq a0 x = some r) ∧ Aside0 (kq ≤ kj) ∧ Drawn0 w w')
    case atStart => exact ⟨1, rs, uF H rfl, ⟨Nat.le_refl _⟩, drw⟩
    case round =>
     clear H
     obtain ⟨x, rfl, H, HK, ⟨m, rfl⟩⟩ := hrel
     cases gk with
     | zero => exact absurd H.out (by simp [token_name.l0])
     | succ k1 =>
      simp only [token_name.l0] at H
      by_cases c : x < (a0.size : Int)
      ·replace H := jn (iT H c)
       obtain ⟨c0, H⟩ := H
       have hx := bt_at a0 x
       go_upto_region 7 with (fail)
       go_cut [21] (fun v21 wc => ∃ (kq : Nat) (b : Bool), v21 = .bool b ∧ Aside0 (token_name.j2 kq a0 x (bt a0 x) b = some r) ∧ Aside0 (kq ≤ k1) ∧ Drawn0 w wc)
       case first =>
        go_wp2_with (first | (go_at_call 169; obtain ⟨t, A, H⟩ := bE H; (with_reducible refine (token_small.calls (bt a0 x) t _ A.out).mono ?_); rintro e w' ⟨rfl, ⟨nd, rfl⟩⟩) | (go_at_call 170; obtain ⟨t2, A2, H⟩ := bE (iF H (by assumption)); (with_reducible refine (token_digit.calls (bt a0 x) t2 _ A2.out).mono ?_); rintro e w' ⟨rfl, ⟨nd2, rfl⟩⟩))
        ·go_meet
         case rel => exact ⟨_, true, rs, uT H (by assumption), ⟨Nat.le_refl _⟩, drw⟩
        ·go_meet
         case rel => exact ⟨_, t2, rs, H, ⟨Nat.le_refl _⟩, drw⟩
       case rest =>
        clear H
        obtain ⟨kq, b2, rfl, H, HJ2, ⟨m2, rfl⟩⟩ := hcut
        cases kq with
        | zero => exact absurd H.out (by simp [token_name.j2])
        | succ k2 =>
         simp only [token_name.j2] at H
         have hx1 := bt_at a0 (wrap64 (x + 1))
         cases b2
         rotate_left
         ·replace H := uT H rfl
          go_wp2
          go_roundg k2
          case measure => have := HJ2.out; omega
          case rel => exact ⟨_, rs, H, ⟨by have := HJ2.out; have := HK.out; omega⟩, drw⟩
         replace H := uF H rfl
         go_wp2_with (first | (go_at_call 169; obtain ⟨t, A, H⟩ := bE (jn (iT (iT H (by assumption)) (by omega))).2; (with_reducible refine (token_small.calls (bt a0 (wrap64 (x + 1))) t _ A.out).mono ?_); rintro e w' ⟨rfl, ⟨nd, rfl⟩⟩) | (go_at_call 170; obtain ⟨t2, A2, H⟩ := bE (iF H (by assumption)); (with_reducible refine (token_digit.calls (bt a0 (wrap64 (x + 1))) t2 _ A2.out).mono ?_); rintro e w' ⟨rfl, ⟨nd2, rfl⟩⟩))
         ·go_roundg k2
          case measure => have := HJ2.out; omega
          case rel => exact ⟨_, rs, iT H (by assumption), ⟨by have := HJ2.out; have := HK.out; omega⟩, drw⟩
         ·go_roundg k2
          case measure => have := HJ2.out; omega
          case rel => exact ⟨_, rs, iT H (by assumption), ⟨by have := HJ2.out; have := HK.out; omega⟩, drw⟩
         ·obtain rfl := sj (uF H (by assumption))
          go_ret
          exact ⟨rs, drw⟩
         ·exact absurd (jn (iT (iT H (by assumption)) (by assumption))).1 (by omega)
         ·obtain rfl := sj (iF (iT H (by assumption)) (by omega))
          go_ret
          exact ⟨rs, drw⟩
         ·obtain rfl := sj (iF H (by assumption))
          go_ret
          exact ⟨rs, drw⟩
      ·go_wp2
       obtain rfl := sj (iF H (by omega))
       go_ret
       exact ⟨rs, drw⟩
def token_IsName.f (k : Nat) (a0 : ByteArray) : Option (Bool) := if a0.toList = ([] : List UInt8) then (some false) else (if (a0.size : Int) ≤ 20 then ((token_name.f k a0).bind fun t269 => (some (t269 == (a0.size : Int)))) else (some false))
set_option maxHeartbeats 8000000 in
set_option maxRecDepth 100000 in
theorem token_IsName.calls (k : Nat) (a0 : ByteArray) (r : Bool) (w : World) (h : token_IsName.f k a0 = some r) :
  Calls Tryz.prog 40 #[.string a0] w fun e w' => e = .returned (.bool r) ∧ Drawn0 w w' := by
 have H : (if a0.toList = ([] : List UInt8) then (some false) else (if (a0.size : Int) ≤ 20 then ((token_name.f k a0).bind fun t269 => (some (t269 == (a0.size : Int)))) else (some false))) = some r := h
 clear h
 by_cases c2 : a0.toList = ([] : List UInt8)
 ·rw [if_pos c2] at H
  have c2b0 : (a0.toList == ([] : List UInt8)) = true := beq_iff_eq.mpr c2
  have c2b1 : (a0.toList != ([] : List UInt8)) = false := bne_eq_false_iff_eq.mpr c2
  clear c2
  obtain rfl := Option.some.inj H
  go_enter Tryz.func40, Tryz.ntmps40
  go_wp2
  go_ret
  exact ⟨rs, drw⟩
 ·rw [if_neg c2] at H
  have c2b0 : (a0.toList == ([] : List UInt8)) = false := beq_eq_false_iff_ne.mpr c2
  have c2b1 : (a0.toList != ([] : List UInt8)) = true := bne_iff_ne.mpr c2
  by_cases c3 : (a0.size : Int) ≤ 20
  ·rw [if_pos c3] at H
   have c3b0 : decide ((a0.size : Int) ≤ 20) = true := decide_eq_true c3
   have c3b1 : decide (a0.size ≤ 20) = true := decide_eq_true (by omega)
   clear c3
   replace H := Option.bind_eq_some_iff.mp H
   obtain ⟨t269, A40, H⟩ := H
   replace H : (some (t269 == (a0.size : Int))) = some r := H
   have A4 := Aside0.mk A40
   clear A40
   obtain rfl := Option.some.inj H
   go_enter Tryz.func40, Tryz.ntmps40
   go_wp2_with (first | (go_at_call 96; (with_reducible refine (token_name.calls k a0 t269 _ A4.out).mono ?_); rintro e w' ⟨rfl, ⟨nd, rfl⟩⟩))
   go_ret
   exact ⟨rs, drw⟩
  ·rw [if_neg c3] at H
   have c3b0 : decide ((a0.size : Int) ≤ 20) = false := decide_eq_false c3
   have c3b1 : decide (a0.size ≤ 20) = false := decide_eq_false (by omega)
   clear c3
   obtain rfl := Option.some.inj H
   go_enter Tryz.func40, Tryz.ntmps40
   go_wp2
   go_ret
   exact ⟨rs, drw⟩
def tally_entry.j0 : Nat → Int → Bool → List ByteArray → List Int → Option (Int)
 | 0, _, _, _, _ => none
 | k + 1, x1, x15, x271000, x271001 => if x15 = true then (some 18) else (if 0 ≤ x1 then (if x1 < (x271001.length : Int) then (if (rd x271001 x1) < 1 then (some 6) else (if (rd x271001 x1) > 1000000 then (some 6) else (some 0))) else (none)) else (none))
def tally_entry.f (k : Nat) (l0_0 : List ByteArray) (l0_1 : List Int) (a1 : Int) : Option (Int) := if 0 ≤ a1 then (if a1 < (l0_0.length : Int) then ((tally_wrong.f k (rdOf ByteArray.empty l0_0 a1)).bind fun t272 => (if t272 = 0 then (if a1 > 0 then (if 0 ≤ (wrap64 (a1 - 1)) then (if (wrap64 (a1 - 1)) < (l0_0.length : Int) then (tally_entry.j0 k a1 (!(Op.bytesLess ((rdOf ByteArray.empty l0_0 (wrap64 (a1 - 1))).toList) ((rdOf ByteArray.empty l0_0 a1).toList))) l0_0 l0_1) else (none)) else (none)) else (tally_entry.j0 k a1 false l0_0 l0_1)) else (some t272))) else (none)) else (none)
set_option maxHeartbeats 8000000 in
set_option maxRecDepth 100000 in
theorem tally_entry.calls (k : Nat) (A0_0 : Option Addr) (c0_0 : Nat) (l0_0 : List ByteArray) (A0_1 : Option Addr) (c0_1 : Nat) (l0_1 : List Int) (a1 : Int) (r : Int) (w : World) (hr0_0 : Kd.C Kd.string w A0_0 l0_0.length l0_0) (hc0_0 : l0_0.length ≤ c0_0) (hr0_1 : Kd.C (Kd.int .i64) w A0_1 l0_1.length l0_1) (hc0_1 : l0_1.length ≤ c0_1) (h : tally_entry.f k l0_0 l0_1 a1 = some r) :
  Calls Tryz.prog 171 #[.agg #[.slice A0_0 l0_0.length c0_0, .slice A0_1 l0_1.length c0_1], .int .i64 a1] w fun e w' => e = .returned (.int .i64 r) ∧ Below w.heap.size w w' := by
 have hu26 := Tryz.underlying26
 have HR0_0 := Aside0.mk hr0_0
 have HC0_0 := Aside0.mk hc0_0
 clear hr0_0 hc0_0
 have HR0_1 := Aside0.mk hr0_1
 have HC0_1 := Aside0.mk hc0_1
 clear hr0_1 hc0_1
 have HB := Aside0.mk (Below.refl w.heap.size w)
 have H : (if 0 ≤ a1 then (if a1 < (l0_0.length : Int) then ((tally_wrong.f k (rdOf ByteArray.empty l0_0 a1)).bind fun t272 => (if t272 = 0 then (if a1 > 0 then (if 0 ≤ (wrap64 (a1 - 1)) then (if (wrap64 (a1 - 1)) < (l0_0.length : Int) then (tally_entry.j0 k a1 (!(Op.bytesLess ((rdOf ByteArray.empty l0_0 (wrap64 (a1 - 1))).toList) ((rdOf ByteArray.empty l0_0 a1).toList))) l0_0 l0_1) else (none)) else (none)) else (tally_entry.j0 k a1 false l0_0 l0_1)) else (some t272))) else (none)) else (none)) = some r := h
 clear h
 by_cases c3 : 0 ≤ a1
 ·rw [if_pos c3] at H
  have c3b0 : decide (0 ≤ a1) = true := decide_eq_true c3
  clear c3
  by_cases c4 : a1 < (l0_0.length : Int)
  ·rw [if_pos c4] at H
   have c4b0 : decide (a1 < (l0_0.length : Int)) = true := decide_eq_true c4
   clear c4
   replace H := Option.bind_eq_some_iff.mp H
   obtain ⟨t272, A50, H⟩ := H
   replace H : (if t272 = 0 then (if a1 > 0 then (if 0 ≤ (wrap64 (a1 - 1)) then (if (wrap64 (a1 - 1)) < (l0_0.length : Int) then (tally_entry.j0 k a1 (!(Op.bytesLess ((rdOf ByteArray.empty l0_0 (wrap64 (a1 - 1))).toList) ((rdOf ByteArray.empty l0_0 a1).toList))) l0_0 l0_1) else (none)) else (none)) else (tally_entry.j0 k a1 false l0_0 l0_1)) else (some t272)) = some r := H
   have A5 := Aside0.mk A50
   clear A50
   by_cases c6 : t272 = 0
   ·rw [if_pos c6] at H
    have c6b0 : (t272 == 0) = true := beq_iff_eq.mpr c6
    have c6b1 : (t272 != 0) = false := bne_eq_false_iff_eq.mpr c6
    clear c6
    have HC7 := Aside0.mk H
    clear H
    go_enter Tryz.func171, Tryz.ntmps171
    go_upto_region 4 with (first | ((with_reducible refine gate_dst (N := 2) rfl ?_); refine box_event ?hg (N := 2) ?hd (cs := #[.slice A0_0 l0_0.length c0_0, .slice A0_1 l0_1.length c0_1]) (t := 26) ?hr ?_; (case hd => rfl); (case hg => rfl); (case hr => first | (go_simp; done) | (go_simp; rfl)); intro gb270 hg w8 hbox hb; have n0_ := Aside0.mk (below_step bel hb); have n1_ := Aside0.mk (hbox); have n2_ := Aside0.mk ((by rw [hg]; exact (below_size bel) : w.heap.size ≤ gb270)); have n3_ := Aside0.mk ((by rw [hg]; exact (below_size bel) : w.heap.size ≤ gb270)); clear HB; have HB := n0_; have BK270 := n1_; have GW270 := n2_; have GE270 := n3_; clear n0_ n1_ n2_ n3_; clear hb hbox hg; have hcz9_0 : w8.cell? ⟨gb270, 0, none⟩ = some (.slice A0_0 l0_0.length c0_0) := (blk_cell BK270.out 0).trans rfl; have hcz9_1 : w8.cell? ⟨gb270, 1, none⟩ = some (.slice A0_1 l0_1.length c0_1) := (blk_cell BK270.out 1).trans rfl; have hfz9_0 := blk_frozen BK270.out 0; have hfz9_1 := blk_frozen BK270.out 1; have p271 : 0 ≤ (a1 : Int) := of_decide_eq_true asm; have q271 : a1 < (l0_0.length : Int) := of_decide_eq_true asm; obtain ⟨ad271, e271, hx271_0⟩ := Kd.at_string HR0_0.out a1 p271 q271; cases e271; replace hx271_0 := (HB.out.cell (World.block_lt_of_cell? w _ hx271_0)).trans hx271_0; replace p271 := eq_true p271; replace q271 := eq_true q271) | (go_at_call 172; (with_reducible refine (tally_wrong.calls k (rdOf ByteArray.empty l0_0 a1) t272 _ A5.out).mono ?_); rintro e w10 ⟨rfl, hb⟩; have n0_ := Aside0.mk (blk_below (g := gb270) (o := .cells #[.slice (some ad271) l0_0.length c0_0, .slice A0_1 l0_1.length c0_1] 26 (0, 0)) skb hb); have n1_ := Aside0.mk (below_step bel hb); clear BK270; clear HB; have BK270 := n0_; have HB := n1_; clear n0_ n1_; (try clear hb); (try clear hb2); (try clear hk); (try clear hi)))
    repeat (go_quiet (first | ((with_reducible refine gate_dst (N := 2) rfl ?_); refine box_event ?hg (N := 2) ?hd (cs := #[.slice A0_0 l0_0.length c0_0, .slice A0_1 l0_1.length c0_1]) (t := 26) ?hr ?_; (case hd => rfl); (case hg => rfl); (case hr => first | (go_simp; done) | (go_simp; rfl)); intro gb270 hg w8 hbox hb; have n0_ := Aside0.mk (below_step bel hb); have n1_ := Aside0.mk (hbox); have n2_ := Aside0.mk ((by rw [hg]; exact (below_size bel) : w.heap.size ≤ gb270)); have n3_ := Aside0.mk ((by rw [hg]; exact (below_size bel) : w.heap.size ≤ gb270)); clear HB; have HB := n0_; have BK270 := n1_; have GW270 := n2_; have GE270 := n3_; clear n0_ n1_ n2_ n3_; clear hb hbox hg; have hcz9_0 : w8.cell? ⟨gb270, 0, none⟩ = some (.slice A0_0 l0_0.length c0_0) := (blk_cell BK270.out 0).trans rfl; have hcz9_1 : w8.cell? ⟨gb270, 1, none⟩ = some (.slice A0_1 l0_1.length c0_1) := (blk_cell BK270.out 1).trans rfl; have hfz9_0 := blk_frozen BK270.out 0; have hfz9_1 := blk_frozen BK270.out 1; have p271 : 0 ≤ (a1 : Int) := of_decide_eq_true asm; have q271 : a1 < (l0_0.length : Int) := of_decide_eq_true asm; obtain ⟨ad271, e271, hx271_0⟩ := Kd.at_string HR0_0.out a1 p271 q271; cases e271; replace hx271_0 := (HB.out.cell (World.block_lt_of_cell? w _ hx271_0)).trans hx271_0; replace p271 := eq_true p271; replace q271 := eq_true q271) | (go_at_call 172; (with_reducible refine (tally_wrong.calls k (rdOf ByteArray.empty l0_0 a1) t272 _ A5.out).mono ?_); rintro e w10 ⟨rfl, hb⟩; have n0_ := Aside0.mk (blk_below (g := gb270) (o := .cells #[.slice (some ad271) l0_0.length c0_0, .slice A0_1 l0_1.length c0_1] 26 (0, 0)) skb hb); have n1_ := Aside0.mk (below_step bel hb); clear BK270; clear HB; have BK270 := n0_; have HB := n1_; clear n0_ n1_; (try clear hb); (try clear hb2); (try clear hk); (try clear hi))); go_upto_region 4 with (first | ((with_reducible refine gate_dst (N := 2) rfl ?_); refine box_event ?hg (N := 2) ?hd (cs := #[.slice A0_0 l0_0.length c0_0, .slice A0_1 l0_1.length c0_1]) (t := 26) ?hr ?_; (case hd => rfl); (case hg => rfl); (case hr => first | (go_simp; done) | (go_simp; rfl)); intro gb270 hg w8 hbox hb; have n0_ := Aside0.mk (below_step bel hb); have n1_ := Aside0.mk (hbox); have n2_ := Aside0.mk ((by rw [hg]; exact (below_size bel) : w.heap.size ≤ gb270)); have n3_ := Aside0.mk ((by rw [hg]; exact (below_size bel) : w.heap.size ≤ gb270)); clear HB; have HB := n0_; have BK270 := n1_; have GW270 := n2_; have GE270 := n3_; clear n0_ n1_ n2_ n3_; clear hb hbox hg; have hcz9_0 : w8.cell? ⟨gb270, 0, none⟩ = some (.slice A0_0 l0_0.length c0_0) := (blk_cell BK270.out 0).trans rfl; have hcz9_1 : w8.cell? ⟨gb270, 1, none⟩ = some (.slice A0_1 l0_1.length c0_1) := (blk_cell BK270.out 1).trans rfl; have hfz9_0 := blk_frozen BK270.out 0; have hfz9_1 := blk_frozen BK270.out 1; have p271 : 0 ≤ (a1 : Int) := of_decide_eq_true asm; have q271 : a1 < (l0_0.length : Int) := of_decide_eq_true asm; obtain ⟨ad271, e271, hx271_0⟩ := Kd.at_string HR0_0.out a1 p271 q271; cases e271; replace hx271_0 := (HB.out.cell (World.block_lt_of_cell? w _ hx271_0)).trans hx271_0; replace p271 := eq_true p271; replace q271 := eq_true q271) | (go_at_call 172; (with_reducible refine (tally_wrong.calls k (rdOf ByteArray.empty l0_0 a1) t272 _ A5.out).mono ?_); rintro e w10 ⟨rfl, hb⟩; have n0_ := Aside0.mk (blk_below (g := gb270) (o := .cells #[.slice (some ad271) l0_0.length c0_0, .slice A0_1 l0_1.length c0_1] 26 (0, 0)) skb hb); have n1_ := Aside0.mk (below_step bel hb); clear BK270; clear HB; have BK270 := n0_; have HB := n1_; clear n0_ n1_; (try clear hb); (try clear hb2); (try clear hk); (try clear hi))))
    (try simp only [Act.put, List.setIfInBounds_toArray, List.set_cons_zero, List.set_cons_succ])
    go_cut [15] (fun v15 wc => ∃ (kq : Nat) (x15_6 : Bool), v15 = .bool x15_6 ∧ Aside0 (tally_entry.j0 kq a1 x15_6 l0_0 l0_1 = some r) ∧ Aside0 (kq ≤ k) ∧ Aside0 (wc.heap[gb270]? = some (.cells #[(.slice (some ad271) l0_0.length c0_0), (.slice A0_1 l0_1.length c0_1)] 26 (0, 0))) ∧ Aside0 (Below w.heap.size w wc))
    case first =>
     have H := HC7.out
     clear HC7
     by_cases c11 : a1 > 0
     ·rw [if_pos c11] at H
      have c11b0 : decide (0 < a1) = true := decide_eq_true c11
      clear c11
      (first | rw [c11b0] | (simp only [i64_w]; rw [c11b0]) | skip)
      obtain ⟨ji12, hji12⟩ : ∃ j_ : Int, (wrap64 (a1 - 1)) = j_ := ⟨_, rfl⟩
      replace H : (if 0 ≤ (ji12) then (if (ji12) < (l0_0.length : Int) then (tally_entry.j0 k a1 (!(Op.bytesLess ((rdOf ByteArray.empty l0_0 (ji12)).toList) ((rdOf ByteArray.empty l0_0 a1).toList))) l0_0 l0_1) else (none)) else (none)) = some r := by first | (rw [hji12] at H; exact H) | (simp only [hji12] at H ⊢; exact H)
      have hji12w : (IntKind.i64.wrap (a1 - 1)) = ji12 := (i64_w _).trans hji12
      by_cases c13 : 0 ≤ (ji12)
      ·rw [if_pos c13] at H
       have c13b0 : decide (0 ≤ (ji12)) = true := decide_eq_true c13
       clear c13
       by_cases c14 : (ji12) < (l0_0.length : Int)
       ·rw [if_pos c14] at H
        have c14b0 : decide ((ji12) < (l0_0.length : Int)) = true := decide_eq_true c14
        clear c14
        have H' := Aside0.mk H
        clear H
        have hcz15_0 : w10.cell? ⟨gb270, 0, none⟩ = some (.slice (some ad271) l0_0.length c0_0) := (blk_cell BK270.out 0).trans rfl
        have hcz15_1 : w10.cell? ⟨gb270, 1, none⟩ = some (.slice A0_1 l0_1.length c0_1) := (blk_cell BK270.out 1).trans rfl
        have hfz15_0 := blk_frozen BK270.out 0
        have hfz15_1 := blk_frozen BK270.out 1
        have p273 : 0 ≤ ((ji12) : Int) := of_decide_eq_true asm
        have q273 : (ji12) < (l0_0.length : Int) := of_decide_eq_true asm
        obtain ⟨ad273, e273, hx273_0⟩ := Kd.at_string HR0_0.out (ji12) p273 q273
        obtain rfl : ad271 = ad273 := (by injection e273)
        replace hx273_0 := (HB.out.cell (World.block_lt_of_cell? w _ hx273_0)).trans hx273_0
        replace p273 := eq_true p273
        replace q273 := eq_true q273
        have p274 : 0 ≤ (a1 : Int) := of_decide_eq_true asm
        have q274 : a1 < (l0_0.length : Int) := of_decide_eq_true asm
        obtain ⟨ad274, e274, hx274_0⟩ := Kd.at_string HR0_0.out a1 p274 q274
        obtain rfl : ad271 = ad274 := (by injection e274)
        replace hx274_0 := (HB.out.cell (World.block_lt_of_cell? w _ hx274_0)).trans hx274_0
        replace p274 := eq_true p274
        replace q274 := eq_true q274
        have hq := fun x y W => geqS (P := Tryz.prog) 9 x y W
        have hq2 := fun x y W => leqS (P := Tryz.prog) 9 x y W
        go_wp2
        repeat (go_quiet (fail); try go_wp2)
        go_meet
        case rel => exact ⟨_, (!(Op.bytesLess ((rdOf ByteArray.empty l0_0 (ji12)).toList) ((rdOf ByteArray.empty l0_0 a1).toList))), (by first | rfl | (simp; done) | (simp only [← hji12] <;> (first | rfl | simp)) | (simp [*]; done)), H', ⟨by first | omega | exact Nat.le_refl _⟩, ⟨skb⟩, ⟨bel⟩⟩
       ·rw [if_neg c14] at H
        exact absurd H (by simp)
      ·rw [if_neg c13] at H
       exact absurd H (by simp)
     ·rw [if_neg c11] at H
      have c11b0 : decide (0 < a1) = false := decide_eq_false c11
      clear c11
      (first | rw [c11b0] | (simp only [i64_w]; rw [c11b0]) | skip)
      have H' := Aside0.mk H
      clear H
      go_wp2
      repeat (go_quiet (fail); try go_wp2)
      go_meet
      case rel => exact ⟨_, (false), rs, H', ⟨by first | omega | exact Nat.le_refl _⟩, ⟨skb⟩, ⟨bel⟩⟩
    case rest =>
     clear HC7
     try clear c1
     try clear p2
     try clear q2
     try clear hx2
     try clear c3
     try clear c3b0
     try clear c4
     try clear c4b0
     try clear c6
     try clear c6b0
     try clear c6b1
     try clear p6
     try clear c11
     try clear c11b0
     try clear c13
     try clear c13b0
     try clear c14
     try clear c14b0
     try clear hcz15_0
     try clear hcz15_1
     try clear hcz9_0
     try clear hcz9_1
     try clear hfz15_0
     try clear hfz15_1
     try clear hfz9_0
     try clear hfz9_1
     try clear hx271_0
     try clear hx273_0
     try clear hx274_0
     try clear p271
     try clear p273
     try clear p274
     try clear q271
     try clear q273
     try clear q274
     obtain ⟨kq, x15_6, rfl, HA, HJ6, BK270, HB⟩ := hcut
     cases kq with
     | zero => exact absurd HA.out (by simp [tally_entry.j0])
     | succ kj6 =>
      have H := HA.out
      clear HA
      simp only [tally_entry.j0] at H
      by_cases c16 : x15_6 = true
      ·subst c16
       have H1 : (some 18) = some r := by rw [if_pos rfl] at H; exact H
       clear H
       have H := H1
       clear H1
       obtain rfl := Option.some.inj H
       go_wp2
       repeat (go_quiet (fail); try go_wp2)
       go_ret
       exact ⟨rr, bel⟩
      ·replace c16 := Bool.eq_false_iff.mpr c16
       subst c16
       have H1 : (if 0 ≤ a1 then (if a1 < (l0_1.length : Int) then (if (rd l0_1 a1) < 1 then (some 6) else (if (rd l0_1 a1) > 1000000 then (some 6) else (some 0))) else (none)) else (none)) = some r := by rw [if_neg (show ¬ (false = true) by decide)] at H; exact H
       clear H
       have H := H1
       clear H1
       by_cases c17 : 0 ≤ a1
       ·rw [if_pos c17] at H
        have c17b0 : decide (0 ≤ a1) = true := decide_eq_true c17
        clear c17
        by_cases c18 : a1 < (l0_1.length : Int)
        ·rw [if_pos c18] at H
         have c18b0 : decide (a1 < (l0_1.length : Int)) = true := decide_eq_true c18
         clear c18
         by_cases c19 : (rd l0_1 a1) < 1
         ·rw [if_pos c19] at H
          have c19b0 : decide ((rd l0_1 a1) < 1) = true := decide_eq_true c19
          clear c19
          obtain rfl := Option.some.inj H
          have hcz20_0 : wc.cell? ⟨gb270, 0, none⟩ = some (.slice (some ad271) l0_0.length c0_0) := (blk_cell BK270.out 0).trans rfl
          have hcz20_1 : wc.cell? ⟨gb270, 1, none⟩ = some (.slice A0_1 l0_1.length c0_1) := (blk_cell BK270.out 1).trans rfl
          have hfz20_0 := blk_frozen BK270.out 0
          have hfz20_1 := blk_frozen BK270.out 1
          have p275 : 0 ≤ (a1 : Int) := of_decide_eq_true asm
          have q275 : a1 < (l0_1.length : Int) := of_decide_eq_true asm
          obtain ⟨ad275, e275, hx275_0⟩ := Kd.at_int HR0_1.out a1 p275 q275
          cases e275
          replace hx275_0 := (HB.out.cell (World.block_lt_of_cell? w _ hx275_0)).trans hx275_0
          replace p275 := eq_true p275
          replace q275 := eq_true q275
          go_wp2
          repeat (go_quiet (fail); try go_wp2)
          go_ret
          exact ⟨rr, bel⟩
         ·rw [if_neg c19] at H
          have c19b0 : decide ((rd l0_1 a1) < 1) = false := decide_eq_false c19
          clear c19
          by_cases c21 : (rd l0_1 a1) > 1000000
          ·rw [if_pos c21] at H
           have c21b0 : decide (1000000 < (rd l0_1 a1)) = true := decide_eq_true c21
           clear c21
           obtain rfl := Option.some.inj H
           have hcz22_0 : wc.cell? ⟨gb270, 0, none⟩ = some (.slice (some ad271) l0_0.length c0_0) := (blk_cell BK270.out 0).trans rfl
           have hcz22_1 : wc.cell? ⟨gb270, 1, none⟩ = some (.slice A0_1 l0_1.length c0_1) := (blk_cell BK270.out 1).trans rfl
           have hfz22_0 := blk_frozen BK270.out 0
           have hfz22_1 := blk_frozen BK270.out 1
           have p275 : 0 ≤ (a1 : Int) := of_decide_eq_true asm
           have q275 : a1 < (l0_1.length : Int) := of_decide_eq_true asm
           obtain ⟨ad275, e275, hx275_0⟩ := Kd.at_int HR0_1.out a1 p275 q275
           cases e275
           replace hx275_0 := (HB.out.cell (World.block_lt_of_cell? w _ hx275_0)).trans hx275_0
           replace p275 := eq_true p275
           replace q275 := eq_true q275
           have p276 : 0 ≤ (a1 : Int) := of_decide_eq_true asm
           have q276 : a1 < (l0_1.length : Int) := of_decide_eq_true asm
           obtain ⟨ad276, e276, hx276_0⟩ := Kd.at_int HR0_1.out a1 p276 q276
           obtain rfl : ad275 = ad276 := (by injection e276)
           replace hx276_0 := (HB.out.cell (World.block_lt_of_cell? w _ hx276_0)).trans hx276_0
           replace p276 := eq_true p276
           replace q276 := eq_true q276
           go_wp2
           repeat (go_quiet (fail); try go_wp2)
           go_ret
           exact ⟨rr, bel⟩
          ·rw [if_neg c21] at H
           have c21b0 : decide (1000000 < (rd l0_1 a1)) = false := decide_eq_false c21
           clear c21
           obtain rfl := Option.some.inj H
           have hcz23_0 : wc.cell? ⟨gb270, 0, none⟩ = some (.slice (some ad271) l0_0.length c0_0) := (blk_cell BK270.out 0).trans rfl
           have hcz23_1 : wc.cell? ⟨gb270, 1, none⟩ = some (.slice A0_1 l0_1.length c0_1) := (blk_cell BK270.out 1).trans rfl
           have hfz23_0 := blk_frozen BK270.out 0
           have hfz23_1 := blk_frozen BK270.out 1
           have p275 : 0 ≤ (a1 : Int) := of_decide_eq_true asm
           have q275 : a1 < (l0_1.length : Int) := of_decide_eq_true asm
           obtain ⟨ad275, e275, hx275_0⟩ := Kd.at_int HR0_1.out a1 p275 q275
           cases e275
           replace hx275_0 := (HB.out.cell (World.block_lt_of_cell? w _ hx275_0)).trans hx275_0
           replace p275 := eq_true p275
           replace q275 := eq_true q275
           have p276 : 0 ≤ (a1 : Int) := of_decide_eq_true asm
           have q276 : a1 < (l0_1.length : Int) := of_decide_eq_true asm
           obtain ⟨ad276, e276, hx276_0⟩ := Kd.at_int HR0_1.out a1 p276 q276
           obtain rfl : ad275 = ad276 := (by injection e276)
           replace hx276_0 := (HB.out.cell (World.block_lt_of_cell? w _ hx276_0)).trans hx276_0
           replace p276 := eq_true p276
           replace q276 := eq_true q276
           go_wp2
           repeat (go_quiet (fail); try go_wp2)
           go_ret
           exact ⟨rr, bel⟩
        ·rw [if_neg c18] at H
         exact absurd H (by simp)
       ·rw [if_neg c17] at H
        exact absurd H (by simp)
   ·rw [if_neg c6] at H
    have c6b0 : (t272 == 0) = false := beq_eq_false_iff_ne.mpr c6
    have c6b1 : (t272 != 0) = true := bne_iff_ne.mpr c6
    obtain rfl := Option.some.inj H
    go_enter Tryz.func171, Tryz.ntmps171
    go_wp2_with (first | ((with_reducible refine gate_dst (N := 2) rfl ?_); refine box_event ?hg (N := 2) ?hd (cs := #[.slice A0_0 l0_0.length c0_0, .slice A0_1 l0_1.length c0_1]) (t := 26) ?hr ?_; (case hd => rfl); (case hg => rfl); (case hr => first | (go_simp; done) | (go_simp; rfl)); intro gb270 hg w24 hbox hb; have n0_ := Aside0.mk (below_step bel hb); have n1_ := Aside0.mk (hbox); have n2_ := Aside0.mk ((by rw [hg]; exact (below_size bel) : w.heap.size ≤ gb270)); have n3_ := Aside0.mk ((by rw [hg]; exact (below_size bel) : w.heap.size ≤ gb270)); clear HB; have HB := n0_; have BK270 := n1_; have GW270 := n2_; have GE270 := n3_; clear n0_ n1_ n2_ n3_; clear hb hbox hg; have hcz25_0 : w24.cell? ⟨gb270, 0, none⟩ = some (.slice A0_0 l0_0.length c0_0) := (blk_cell BK270.out 0).trans rfl; have hcz25_1 : w24.cell? ⟨gb270, 1, none⟩ = some (.slice A0_1 l0_1.length c0_1) := (blk_cell BK270.out 1).trans rfl; have hfz25_0 := blk_frozen BK270.out 0; have hfz25_1 := blk_frozen BK270.out 1; have p271 : 0 ≤ (a1 : Int) := of_decide_eq_true asm; have q271 : a1 < (l0_0.length : Int) := of_decide_eq_true asm; obtain ⟨ad271, e271, hx271_0⟩ := Kd.at_string HR0_0.out a1 p271 q271; cases e271; replace hx271_0 := (HB.out.cell (World.block_lt_of_cell? w _ hx271_0)).trans hx271_0; replace p271 := eq_true p271; replace q271 := eq_true q271) | (go_at_call 172; (with_reducible refine (tally_wrong.calls k (rdOf ByteArray.empty l0_0 a1) t272 _ A5.out).mono ?_); rintro e w26 ⟨rfl, hb⟩; have n0_ := Aside0.mk (blk_below (g := gb270) (o := .cells #[.slice (some ad271) l0_0.length c0_0, .slice A0_1 l0_1.length c0_1] 26 (0, 0)) skb hb); have n1_ := Aside0.mk (below_step bel hb); clear BK270; clear HB; have BK270 := n0_; have HB := n1_; clear n0_ n1_; (try clear hb); (try clear hb2); (try clear hk); (try clear hi)))
    repeat (go_quiet (first | ((with_reducible refine gate_dst (N := 2) rfl ?_); refine box_event ?hg (N := 2) ?hd (cs := #[.slice A0_0 l0_0.length c0_0, .slice A0_1 l0_1.length c0_1]) (t := 26) ?hr ?_; (case hd => rfl); (case hg => rfl); (case hr => first | (go_simp; done) | (go_simp; rfl)); intro gb270 hg w24 hbox hb; have n0_ := Aside0.mk (below_step bel hb); have n1_ := Aside0.mk (hbox); have n2_ := Aside0.mk ((by rw [hg]; exact (below_size bel) : w.heap.size ≤ gb270)); have n3_ := Aside0.mk ((by rw [hg]; exact (below_size bel) : w.heap.size ≤ gb270)); clear HB; have HB := n0_; have BK270 := n1_; have GW270 := n2_; have GE270 := n3_; clear n0_ n1_ n2_ n3_; clear hb hbox hg; have hcz25_0 : w24.cell? ⟨gb270, 0, none⟩ = some (.slice A0_0 l0_0.length c0_0) := (blk_cell BK270.out 0).trans rfl; have hcz25_1 : w24.cell? ⟨gb270, 1, none⟩ = some (.slice A0_1 l0_1.length c0_1) := (blk_cell BK270.out 1).trans rfl; have hfz25_0 := blk_frozen BK270.out 0; have hfz25_1 := blk_frozen BK270.out 1; have p271 : 0 ≤ (a1 : Int) := of_decide_eq_true asm; have q271 : a1 < (l0_0.length : Int) := of_decide_eq_true asm; obtain ⟨ad271, e271, hx271_0⟩ := Kd.at_string HR0_0.out a1 p271 q271; cases e271; replace hx271_0 := (HB.out.cell (World.block_lt_of_cell? w _ hx271_0)).trans hx271_0; replace p271 := eq_true p271; replace q271 := eq_true q271) | (go_at_call 172; (with_reducible refine (tally_wrong.calls k (rdOf ByteArray.empty l0_0 a1) t272 _ A5.out).mono ?_); rintro e w26 ⟨rfl, hb⟩; have n0_ := Aside0.mk (blk_below (g := gb270) (o := .cells #[.slice (some ad271) l0_0.length c0_0, .slice A0_1 l0_1.length c0_1] 26 (0, 0)) skb hb); have n1_ := Aside0.mk (below_step bel hb); clear BK270; clear HB; have BK270 := n0_; have HB := n1_; clear n0_ n1_; (try clear hb); (try clear hb2); (try clear hk); (try clear hi))); try go_wp2_with (first | ((with_reducible refine gate_dst (N := 2) rfl ?_); refine box_event ?hg (N := 2) ?hd (cs := #[.slice A0_0 l0_0.length c0_0, .slice A0_1 l0_1.length c0_1]) (t := 26) ?hr ?_; (case hd => rfl); (case hg => rfl); (case hr => first | (go_simp; done) | (go_simp; rfl)); intro gb270 hg w24 hbox hb; have n0_ := Aside0.mk (below_step bel hb); have n1_ := Aside0.mk (hbox); have n2_ := Aside0.mk ((by rw [hg]; exact (below_size bel) : w.heap.size ≤ gb270)); have n3_ := Aside0.mk ((by rw [hg]; exact (below_size bel) : w.heap.size ≤ gb270)); clear HB; have HB := n0_; have BK270 := n1_; have GW270 := n2_; have GE270 := n3_; clear n0_ n1_ n2_ n3_; clear hb hbox hg; have hcz25_0 : w24.cell? ⟨gb270, 0, none⟩ = some (.slice A0_0 l0_0.length c0_0) := (blk_cell BK270.out 0).trans rfl; have hcz25_1 : w24.cell? ⟨gb270, 1, none⟩ = some (.slice A0_1 l0_1.length c0_1) := (blk_cell BK270.out 1).trans rfl; have hfz25_0 := blk_frozen BK270.out 0; have hfz25_1 := blk_frozen BK270.out 1; have p271 : 0 ≤ (a1 : Int) := of_decide_eq_true asm; have q271 : a1 < (l0_0.length : Int) := of_decide_eq_true asm; obtain ⟨ad271, e271, hx271_0⟩ := Kd.at_string HR0_0.out a1 p271 q271; cases e271; replace hx271_0 := (HB.out.cell (World.block_lt_of_cell? w _ hx271_0)).trans hx271_0; replace p271 := eq_true p271; replace q271 := eq_true q271) | (go_at_call 172; (with_reducible refine (tally_wrong.calls k (rdOf ByteArray.empty l0_0 a1) t272 _ A5.out).mono ?_); rintro e w26 ⟨rfl, hb⟩; have n0_ := Aside0.mk (blk_below (g := gb270) (o := .cells #[.slice (some ad271) l0_0.length c0_0, .slice A0_1 l0_1.length c0_1] 26 (0, 0)) skb hb); have n1_ := Aside0.mk (below_step bel hb); clear BK270; clear HB; have BK270 := n0_; have HB := n1_; clear n0_ n1_; (try clear hb); (try clear hb2); (try clear hk); (try clear hi))))
    go_ret
    exact ⟨rr, bel⟩
  ·rw [if_neg c4] at H
   exact absurd H (by simp)
 ·rw [if_neg c3] at H
  exact absurd H (by simp)
end Go.Proofs.YtolenfcngomdfaaGreatDoor.V
