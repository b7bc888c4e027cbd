-- Written by wip/oprint (this session's own program): the machine's side of a proof. Not trusted: Lean checks it.
import Derived.Test.YtoepdplglablcaaJx0
import Derived.Test.YtoepdplglablcaaJx1
import Derived.Test.YtoepdplglablcaaJx3
import Derived.Test.YtoepdplglablcaaJx5
namespace Go.Proofs.Ytoepdplglablcaa.J
open Go.RowKit Go.Proofs.YtoepdplglablcaaW.PrintWords Go.Proofs.YtoepdplglablcaaW.PrintLast Go.Proofs.YtoepdplglablcaaW.PrintMore
attribute [local go_sem] max2_int min2_int max_two min_two max_three min_three max_four min_four   -- for this text's walks alone
set_option linter.unusedVariables false
set_option linter.unusedSimpArgs false

attribute [local go_sem high] eqA33

/-! ### ancepsref56_Turned: function 29 -/
def ancepsref56_Turned.f (a0 : ByteArray) (a1 : Int) : Option ByteArray := if 0 ≤ a1 ∧ a1 ≤ 9223372036854775807 ∧ a0.size ≤ 9223372036854775807 then (if a1 / 8 < (a0.size : Int) then some (turnBit a0 a1) else none) else none
set_option maxHeartbeats 8000000 in
set_option maxRecDepth 100000 in
theorem ancepsref56_Turned.calls (a0 : ByteArray) (a1 : Int) (r1 : ByteArray) (w : World) (h : ancepsref56_Turned.f a0 a1 = some r1) :
    Calls Try.prog 29 #[.string a0, .int .i64 a1] w fun e w' => e = .returned (.string r1) ∧ Below w.heap.size w w' := by
  unfold ancepsref56_Turned.f at h
  by_cases h00 : 0 ≤ a1 ∧ a1 ≤ 9223372036854775807 ∧ a0.size ≤ 9223372036854775807
  · by_cases h1 : a1 / 8 < (a0.size : Int)
    · rw [if_pos h00, if_pos h1] at h
      obtain ⟨h0, h0', hsz⟩ := h00
      obtain rfl := Option.some.inj h
      clear h
      have kc := fun (w : World) => Lib.run_convert_string_bytes (P := Try.prog) w 9 56 5 a0 Try.underlying9 Try.underlying56 Try.underlying5
      go_enter Try.func29, Try.ntmps29
      go_wp2_with ((with_reducible refine gate_dst (N := 7) rfl ?_); refine conv_event ?hg (N := 7) ?hd (e := 5) (s := a0) ?hr ?_; (case hd => rfl); (case hg => rfl); (case hr => first | (go_simp; done) | (go_simp; rfl)); intro g hg cap hcap w1 hr1 hf1 hb1 hgl; have hgw := Nat.le_of_eq hg.symm; clear hg)
      have p1 : 0 ≤ a1 / 8 := by omega
      have hj : (a1 / 8).toNat < a0.size := by omega
      have hcell : w1.cell? ⟨g, (a1 / 8).toNat, none⟩ = some (.int .u8 (rd (bytesOf a0) (a1 / 8))) := by rw [hr1 _ hj, Int.toNat_of_nonneg p1]
      have hfree := hf1 (a1 / 8).toNat hj
      have p2 : 0 ≤ a1 % 8 := by omega
      have p3 : a1 % 8 < 8 := by omega
      have t1 : a1.tdiv 8 = a1 / 8 := Int.tdiv_eq_ediv_of_nonneg h0
      have t2 : a1.tmod 8 = a1 % 8 := Int.tmod_eq_emod_of_nonneg h0
      have e1 : IntKind.i64.wrap (a1.tdiv 8) = a1 / 8 := by rw [t1, IntKind.wrap_i64]; omega
      have e2 : IntKind.i64.wrap (a1.tmod 8) = a1 % 8 := by rw [t2, IntKind.wrap_i64]; omega
      clear t1 t2
      have hback := bytes_back (P := Try.prog) (c := cap) Try.underlying56 Try.underlying5 Try.underlying9 (bytesOf_length a0) hsz hr1 (a1 / 8).toNat (Go.bits .xor .u8 (rd (bytesOf a0) (a1 / 8)) ((2 ^ (a1 % 8).toNat) % 256))
      clear hr1 hf1
      go_region
      go_wp2
      go_ret
      exact ⟨rfl, (hb1.setCell hgw _).drew⟩
    · rw [if_pos h00, if_neg h1] at h
      exact absurd h (by simp)
  · rw [if_neg h00] at h
    exact absurd h (by simp)

/-! ### ancepsref56_Crash: function 28 -/
def ancepsref56_Crash.j0 : Nat → Int → Int → Bool → ByteArray → ByteArray → Option (ByteArray × ByteArray × Int)
  | 0, _, _, _, _, _ => none
  | k + 1, x1, x2, x28, x241000, x241001 => if x28 = true then (some ((⟨#[]⟩ : ByteArray), (⟨#[]⟩ : ByteArray), 6)) else (if 0 ≤ x1 then (if x1 ≤ (x241001.size : Int) then (if x2 ≥ 0 then ((ancepsref56_Turned.f (x241001.extract 0 (x1 : Int).toNat) x2).bind fun t242 => (if x241000.size + t242.size ≤ 9223372036854775807 then (some (x241000 ++ t242, (⟨#[]⟩ : ByteArray), 0)) else (none))) else (if x241000.size + (x241001.extract 0 (x1 : Int).toNat).size ≤ 9223372036854775807 then (some (x241000 ++ (x241001.extract 0 (x1 : Int).toNat), (⟨#[]⟩ : ByteArray), 0)) else (none))) else (none)) else (none))
def ancepsref56_Crash.f (k : Nat) (a0_0 : ByteArray) (a0_1 : ByteArray) (a1 : Int) (a2 : Int) : Option (ByteArray × ByteArray × Int) := if a1 < 0 then (ancepsref56_Crash.j0 k a1 a2 true a0_0 a0_1) else (if a1 > (a0_1.size : Int) then (ancepsref56_Crash.j0 k a1 a2 true a0_0 a0_1) else (if a2 < (-1) then (ancepsref56_Crash.j0 k a1 a2 true a0_0 a0_1) else (ancepsref56_Crash.j0 k a1 a2 (decide (a2 > (wrap64 ((wrap64 (8 * a1)) - 1)))) a0_0 a0_1)))
theorem ancepsref56_Crash.mono_l : ∀ k, (∀ y0 y1 y2 y3 y4, LeO (ancepsref56_Crash.j0 k y0 y1 y2 y3 y4) (ancepsref56_Crash.j0 (k + 1) y0 y1 y2 y3 y4))
  | 0 => fun _ _ _ _ _ r h => by simp [ancepsref56_Crash.j0] at h
  | k + 1 => by
    have ih0 := ancepsref56_Crash.mono_l k
    · intro y0 y1 y2 y3 y4
      unfold ancepsref56_Crash.j0
      repeat' first
      | (with_reducible exact ih0 _ _ _ _ _)
      | (with_reducible exact LeO.refl _)
      | (with_reducible exact LeO.none _)
      | (with_reducible refine LeO.ite ?_ ?_)
      | (with_reducible refine LeO.bind ?_ (fun _ => ?_))
      | exact ih0 _ _ _ _ _
      | exact LeO.none _
      | refine LeO.ite ?_ ?_
      | refine LeO.bind ?_ (fun _ => ?_)
theorem ancepsref56_Crash.mono : ∀ a0 a1 a2 a3 k, LeO (ancepsref56_Crash.f k a0 a1 a2 a3) (ancepsref56_Crash.f (k + 1) a0 a1 a2 a3) := by
  intro a0 a1 a2 a3 k
  have ih0 := ancepsref56_Crash.mono_l k
  unfold ancepsref56_Crash.f
  repeat' first
      | (with_reducible exact ih0 _ _ _ _ _)
      | (with_reducible exact LeO.refl _)
      | (with_reducible exact LeO.none _)
      | (with_reducible refine LeO.ite ?_ ?_)
      | (with_reducible refine LeO.bind ?_ (fun _ => ?_))
      | exact ih0 _ _ _ _ _
      | exact LeO.none _
      | refine LeO.ite ?_ ?_
      | refine LeO.bind ?_ (fun _ => ?_)
set_option maxHeartbeats 8000000 in
set_option maxRecDepth 100000 in
theorem ancepsref56_Crash.calls (k : Nat) (a0_0 : ByteArray) (a0_1 : ByteArray) (a1 : Int) (a2 : Int) (r1 : ByteArray) (r2 : ByteArray) (r3 : Int) (w : World) (h : ancepsref56_Crash.f k a0_0 a0_1 a1 a2 = some (r1, r2, r3)) :
    Calls Try.prog 28 #[.agg #[.string a0_0, .string a0_1], .int .i64 a1, .int .i64 a2] w fun e w' => e = .returned (.tuple #[.agg #[.string r1, .string r2], .int .i64 r3]) ∧ Below w.heap.size w w' := by
  have hu33 := Try.underlying33
  have HB := Aside0.mk (Below.refl w.heap.size w)
  have H : (if a1 < 0 then (ancepsref56_Crash.j0 k a1 a2 true a0_0 a0_1) else (if a1 > (a0_1.size : Int) then (ancepsref56_Crash.j0 k a1 a2 true a0_0 a0_1) else (if a2 < (-1) then (ancepsref56_Crash.j0 k a1 a2 true a0_0 a0_1) else (ancepsref56_Crash.j0 k a1 a2 (decide (a2 > (wrap64 ((wrap64 (8 * a1)) - 1)))) a0_0 a0_1)))) = some (r1, r2, r3) := h
  clear h
  have HC4 := Aside0.mk H
  clear H
  go_enter Try.func28, Try.ntmps28
  go_upto_region 1 with (first | ((with_reducible refine gate_dst (N := 3) rfl ?_); (try (refine gate_guard (by rfl) ?_; dsimp only)); refine box_event ?hg (N := 3) ?hd (cs := #[.string a0_0, .string a0_1]) (t := 33) ?hr ?_; (case hd => rfl); (case hg => rfl); (case hr => first | (go_simp; done) | (go_simp; rfl)); intro gb240 hg w5 hbox hb; have n0_ := Aside0.mk (below_step (by repeat (first | (with_reducible first | exact HB.out | apply below_alloc | apply pw_below_drewN | apply below_drew1) | exact HB.out)) hb); have n1_ := Aside0.mk (hbox); have n2_ := Aside0.mk ((by rw [hg]; exact (below_size (by repeat (first | (with_reducible first | exact HB.out | apply below_alloc | apply pw_below_drewN | apply below_drew1) | exact HB.out))) : w.heap.size ≤ gb240)); have n3_ := Aside0.mk ((by rw [hg]; exact (below_size (by repeat (first | (with_reducible first | exact HB.out | apply below_alloc | apply pw_below_drewN | apply below_drew1) | exact HB.out))) : w.heap.size ≤ gb240)); clear HB; have HB := n0_; have BK240 := n1_; have GW240 := n2_; have GE240 := n3_; clear n0_ n1_ n2_ n3_; clear hb hbox hg) | ((with_reducible refine gate_dst (N := 6) rfl ?_); (try (refine gate_guard (by rfl) ?_; dsimp only)); refine box_event ?hg (N := 6) ?hd (cs := #[.string (⟨#[]⟩ : ByteArray), .string (⟨#[]⟩ : ByteArray)]) (t := 33) ?hr ?_; (case hd => rfl); (case hg => rfl); (case hr => first | (go_simp; done) | (go_simp; rfl)); intro gb241 hg w6 hbox hb; have n0_ := Aside0.mk (blk_below (g := gb240) (o := .cells #[.string a0_0, .string a0_1] 33 (0, 0)) (by (with_reducible repeat (first | refine blk_drewN ?_ _ | refine blk_drew ?_ | refine blk_alloc ?_ _)); exact BK240.out) hb); have n1_ := Aside0.mk (below_step (by repeat (first | (with_reducible first | exact HB.out | apply below_alloc | apply pw_below_drewN | apply below_drew1 | refine below_set ?_ GE240.out) | exact HB.out)) hb); have n2_ := Aside0.mk (hbox); have n3_ := Aside0.mk ((by rw [hg]; exact (below_size (by repeat (first | (with_reducible first | exact HB.out | apply below_alloc | apply pw_below_drewN | apply below_drew1 | refine below_set ?_ GE240.out) | exact HB.out))) : w.heap.size ≤ gb241)); have n4_ := Aside0.mk ((by rw [hg]; exact (below_size (by repeat (first | (with_reducible first | exact HB.out | apply below_alloc | apply pw_below_drewN | apply below_drew1 | refine below_set ?_ GE240.out) | exact HB.out))) : w.heap.size ≤ gb241)); have n5_ := Aside0.mk ((by rw [hg]; exact Nat.ne_of_lt (blk_lt (g := gb240) (o := .cells #[.string a0_0, .string a0_1] 33 (0, 0)) (by (with_reducible repeat (first | refine blk_drewN ?_ _ | refine blk_drew ?_ | refine blk_alloc ?_ _)); exact BK240.out)) : gb240 ≠ gb241)); have n6_ := Aside0.mk ((by rw [hg]; exact Nat.ne_of_gt (blk_lt (g := gb240) (o := .cells #[.string a0_0, .string a0_1] 33 (0, 0)) (by (with_reducible repeat (first | refine blk_drewN ?_ _ | refine blk_drew ?_ | refine blk_alloc ?_ _)); exact BK240.out)) : gb241 ≠ gb240)); clear BK240; clear HB; have BK240 := n0_; have HB := n1_; have BK241 := n2_; have GW241 := n3_; have GE241 := n4_; have NB240_241 := n5_; have NB241_240 := n6_; clear n0_ n1_ n2_ n3_ n4_ n5_ n6_; clear hb hbox hg))
  (try simp only [Act.put, List.setIfInBounds_toArray, List.set_cons_zero, List.set_cons_succ])
  go_cut [28] (fun v28 wc => ∃ (kq : Nat) (x28_3 : Bool), v28 = .bool x28_3 ∧ Aside0 (ancepsref56_Crash.j0 kq a1 a2 x28_3 a0_0 a0_1 = some (r1, r2, r3)) ∧ Aside0 (kq ≤ k) ∧ Aside0 (wc.heap[gb240]? = some (.cells #[.string a0_0, .string a0_1] 33 (0, 0))) ∧ Aside0 (wc.heap[gb241]? = some (.cells #[.string (⟨#[]⟩ : ByteArray), .string (⟨#[]⟩ : ByteArray)] 33 (0, 0))) ∧ Aside0 (Below w.heap.size w wc))
  case first =>
    have H := HC4.out
    clear HC4
    by_cases c7 : a1 < 0
    · rw [if_pos c7] at H
      have c7b0 : decide (a1 < 0) = true := decide_eq_true c7
      clear c7
      (first | rw [c7b0] | (simp only [i64_w, i32_w]; rw [c7b0]) | skip)
      have H' := Aside0.mk H
      clear H
      go_wp2
      go_meet
      case rel => exact ⟨_, (true), (by first | rfl | (simp; done) | (simp [*]; done)), H', ⟨by first | omega | exact Nat.le_refl _⟩, ⟨by (with_reducible repeat (first | refine blk_drewN ?_ _ | refine blk_drew ?_ | refine blk_alloc ?_ _)); exact BK240.out⟩, ⟨by (with_reducible repeat (first | refine blk_drewN ?_ _ | refine blk_drew ?_ | refine blk_alloc ?_ _)); exact BK241.out⟩, ⟨by repeat (first | (with_reducible first | exact HB.out | apply below_alloc | apply pw_below_drewN | apply below_drew1 | refine below_set ?_ GE240.out | refine below_set ?_ GE241.out) | exact HB.out)⟩⟩
    · rw [if_neg c7] at H
      have c7b0 : decide (a1 < 0) = false := decide_eq_false c7
      clear c7
      (first | rw [c7b0] | (simp only [i64_w, i32_w]; rw [c7b0]) | skip)
      by_cases c8 : a1 > (a0_1.size : Int)
      · rw [if_pos c8] at H
        have c8b0 : decide ((a0_1.size : Int) < a1) = true := decide_eq_true c8
        clear c8
        have H' := Aside0.mk H
        clear H
        have hnb9 := NB240_241.out
        have hnc9 := NB241_240.out
        have hcz10_0 : w6.cell? ⟨gb240, 0, none⟩ = some (.string a0_0) := (blk_cell BK240.out 0).trans rfl
        have hcz10_1 : w6.cell? ⟨gb240, 1, none⟩ = some (.string a0_1) := (blk_cell BK240.out 1).trans rfl
        have hfz10_0 := blk_frozen BK240.out 0
        have hfz10_1 := blk_frozen BK240.out 1
        go_wp2
        go_meet
        case rel => exact ⟨_, (true), (by first | rfl | (simp; done) | (simp [*]; done)), H', ⟨by first | omega | exact Nat.le_refl _⟩, ⟨by (with_reducible repeat (first | refine blk_drewN ?_ _ | refine blk_drew ?_ | refine blk_alloc ?_ _)); exact BK240.out⟩, ⟨by (with_reducible repeat (first | refine blk_drewN ?_ _ | refine blk_drew ?_ | refine blk_alloc ?_ _)); exact BK241.out⟩, ⟨by repeat (first | (with_reducible first | exact HB.out | apply below_alloc | apply pw_below_drewN | apply below_drew1 | refine below_set ?_ GE240.out | refine below_set ?_ GE241.out) | exact HB.out)⟩⟩
      · rw [if_neg c8] at H
        have c8b0 : decide ((a0_1.size : Int) < a1) = false := decide_eq_false c8
        clear c8
        by_cases c11 : a2 < (-1)
        · rw [if_pos c11] at H
          have c11b0 : decide (a2 < (-1)) = true := decide_eq_true c11
          clear c11
          have H' := Aside0.mk H
          clear H
          have hnb12 := NB240_241.out
          have hnc12 := NB241_240.out
          have hcz13_0 : w6.cell? ⟨gb240, 0, none⟩ = some (.string a0_0) := (blk_cell BK240.out 0).trans rfl
          have hcz13_1 : w6.cell? ⟨gb240, 1, none⟩ = some (.string a0_1) := (blk_cell BK240.out 1).trans rfl
          have hfz13_0 := blk_frozen BK240.out 0
          have hfz13_1 := blk_frozen BK240.out 1
          go_wp2
          go_meet
          case rel => exact ⟨_, (true), (by first | rfl | (simp; done) | (simp [*]; done)), H', ⟨by first | omega | exact Nat.le_refl _⟩, ⟨by (with_reducible repeat (first | refine blk_drewN ?_ _ | refine blk_drew ?_ | refine blk_alloc ?_ _)); exact BK240.out⟩, ⟨by (with_reducible repeat (first | refine blk_drewN ?_ _ | refine blk_drew ?_ | refine blk_alloc ?_ _)); exact BK241.out⟩, ⟨by repeat (first | (with_reducible first | exact HB.out | apply below_alloc | apply pw_below_drewN | apply below_drew1 | refine below_set ?_ GE240.out | refine below_set ?_ GE241.out) | exact HB.out)⟩⟩
        · rw [if_neg c11] at H
          have c11b0 : decide (a2 < (-1)) = false := decide_eq_false c11
          clear c11
          have H' := Aside0.mk H
          clear H
          have hnb14 := NB240_241.out
          have hnc14 := NB241_240.out
          have hcz15_0 : w6.cell? ⟨gb240, 0, none⟩ = some (.string a0_0) := (blk_cell BK240.out 0).trans rfl
          have hcz15_1 : w6.cell? ⟨gb240, 1, none⟩ = some (.string a0_1) := (blk_cell BK240.out 1).trans rfl
          have hfz15_0 := blk_frozen BK240.out 0
          have hfz15_1 := blk_frozen BK240.out 1
          go_wp2
          go_meet
          case rel => exact ⟨_, (decide (a2 > (wrap64 ((wrap64 (8 * a1)) - 1)))), (by first | rfl | (simp; done) | (simp [*]; done)), H', ⟨by first | omega | exact Nat.le_refl _⟩, ⟨by (with_reducible repeat (first | refine blk_drewN ?_ _ | refine blk_drew ?_ | refine blk_alloc ?_ _)); exact BK240.out⟩, ⟨by (with_reducible repeat (first | refine blk_drewN ?_ _ | refine blk_drew ?_ | refine blk_alloc ?_ _)); exact BK241.out⟩, ⟨by repeat (first | (with_reducible first | exact HB.out | apply below_alloc | apply pw_below_drewN | apply below_drew1 | refine below_set ?_ GE240.out | refine below_set ?_ GE241.out) | exact HB.out)⟩⟩
  case rest =>
    clear HC4
    try clear c1
    try clear c2
    try clear p2
    try clear p6
    try clear c7
    try clear c7b0
    try clear c8
    try clear c8b0
    try clear c9
    try clear c11
    try clear c11b0
    try clear c12
    try clear c14
    try clear hcz10_0
    try clear hcz10_1
    try clear hcz13_0
    try clear hcz13_1
    try clear hcz15_0
    try clear hcz15_1
    try clear hfz10_0
    try clear hfz10_1
    try clear hfz13_0
    try clear hfz13_1
    try clear hfz15_0
    try clear hfz15_1
    obtain ⟨kq, x28_3, rfl, HA, HJ3, BK240, BK241, HB⟩ := hcut
    cases kq with
    | zero => exact absurd HA.out (by simp [ancepsref56_Crash.j0])
    | succ kj3 =>
      have H := HA.out
      clear HA
      simp only [ancepsref56_Crash.j0] at H
      by_cases c16 : x28_3 = true
      · subst c16
        have H1 : (some ((⟨#[]⟩ : ByteArray), (⟨#[]⟩ : ByteArray), 6)) = some (r1, r2, r3) := by rw [if_pos rfl] at H; exact H
        clear H
        have H := H1
        clear H1
        simp only [Option.some.injEq, Prod.mk.injEq] at H
        obtain ⟨rfl, rfl, rfl⟩ := H
        have hnb17 := NB241_240.out
        have hnc17 := NB240_241.out
        have hcz18_0 : wc.cell? ⟨gb241, 0, none⟩ = some (.string (⟨#[]⟩ : ByteArray)) := (blk_cell BK241.out 0).trans rfl
        have hcz18_1 : wc.cell? ⟨gb241, 1, none⟩ = some (.string (⟨#[]⟩ : ByteArray)) := (blk_cell BK241.out 1).trans rfl
        have hfz18_0 := blk_frozen BK241.out 0
        have hfz18_1 := blk_frozen BK241.out 1
        go_wp2
        refine bodyPost_ret (results_ct rfl _ _ gb241 33 #[.string (⟨#[]⟩ : ByteArray), .string (⟨#[]⟩ : ByteArray)] (0, 0) _ rfl (by (with_reducible repeat (first | refine blk_drewN ?_ _ | refine blk_drew ?_ | refine blk_alloc ?_ _)); refine blk_put (cs := #[.string (⟨#[]⟩ : ByteArray), .string (⟨#[]⟩ : ByteArray)]) ?_ 1 _ rfl; (with_reducible repeat (first | refine blk_drewN ?_ _ | refine blk_drew ?_ | refine blk_alloc ?_ _)); refine blk_put (cs := #[.string (⟨#[]⟩ : ByteArray), .string (⟨#[]⟩ : ByteArray)]) ?_ 0 _ rfl; (with_reducible repeat (first | refine blk_drewN ?_ _ | refine blk_drew ?_ | refine blk_alloc ?_ _)); exact BK241.out) Try.underlying33 rfl (by kernel_rfl)) rfl ?_
        exact ⟨by first | rfl | (simp [errW_none, errW_some] <;> rfl) | (simp [*, errW_none, errW_some] <;> rfl), by repeat (first | (with_reducible first | exact HB.out | apply below_alloc | apply pw_below_drewN | apply below_drew1 | refine below_set ?_ GE240.out | refine below_set ?_ GE241.out) | exact HB.out)⟩
      · replace c16 := Bool.eq_false_iff.mpr c16
        subst c16
        have H1 : (if 0 ≤ a1 then (if a1 ≤ (a0_1.size : Int) then (if a2 ≥ 0 then ((ancepsref56_Turned.f (a0_1.extract 0 (a1 : Int).toNat) a2).bind fun t242 => (if a0_0.size + t242.size ≤ 9223372036854775807 then (some (a0_0 ++ t242, (⟨#[]⟩ : ByteArray), 0)) else (none))) else (if a0_0.size + (a0_1.extract 0 (a1 : Int).toNat).size ≤ 9223372036854775807 then (some (a0_0 ++ (a0_1.extract 0 (a1 : Int).toNat), (⟨#[]⟩ : ByteArray), 0)) else (none))) else (none)) else (none)) = some (r1, r2, r3) := by rw [if_neg (show ¬ (false = true) by decide)] at H; exact H
        clear H
        have H := H1
        clear H1
        by_cases c19 : 0 ≤ a1
        · rw [if_pos c19] at H
          have c19b0 := eq_true c19
          have c19b1 : decide (0 ≤ a1) = true := decide_eq_true c19
          clear c19
          by_cases c20 : a1 ≤ (a0_1.size : Int)
          · rw [if_pos c20] at H
            have c20b0 := eq_true c20
            have c20b1 : decide (a1 ≤ (a0_1.size : Int)) = true := decide_eq_true c20
            clear c20
            by_cases c21 : a2 ≥ 0
            · rw [if_pos c21] at H
              have c21b0 : decide (0 ≤ a2) = true := decide_eq_true c21
              clear c21
              replace H := Option.bind_eq_some_iff.mp H
              obtain ⟨t242, A220, H⟩ := H
              replace H : (if a0_0.size + t242.size ≤ 9223372036854775807 then (some (a0_0 ++ t242, (⟨#[]⟩ : ByteArray), 0)) else (none)) = some (r1, r2, r3) := H
              have A22 := Aside0.mk A220
              clear A220
              by_cases c23 : a0_0.size + t242.size ≤ 9223372036854775807
              · rw [if_pos c23] at H
                have c23b0 := eq_true c23
                have c23b1 : decide (a0_0.size + t242.size ≤ 9223372036854775807) = true := decide_eq_true c23
                try have c23b2 : (9223372036854775807 < a0_0.size + t242.size) = False := eq_false (Nat.not_lt.2 c23)
                simp only [Option.some.injEq, Prod.mk.injEq] at H
                obtain ⟨rfl, rfl, rfl⟩ := H
                have hnb24 := NB240_241.out
                have hnc24 := NB241_240.out
                have hcz25_0 : wc.cell? ⟨gb240, 0, none⟩ = some (.string a0_0) := (blk_cell BK240.out 0).trans rfl
                have hcz25_1 : wc.cell? ⟨gb240, 1, none⟩ = some (.string a0_1) := (blk_cell BK240.out 1).trans rfl
                have hfz25_0 := blk_frozen BK240.out 0
                have hfz25_1 := blk_frozen BK240.out 1
                go_wp2_with (first | ((with_reducible refine gate_callee (f := 29) rfl ?_); refine goesL_ (some 38) rfl rfl Try.func29 (by kernel_rfl) rfl #[.string (a0_1.extract 0 (a1 : Int).toNat), .int .i64 a2] rfl (by (try simp only [List.map_toArray, List.map_cons, List.map_nil]); first | done | rfl | (simp only [List.length_drop, List.length_take]; rfl) | (simp only [decide_eq_true_eq, decide_eq_false_iff_not] at *; congr <;> (first | rfl | (refine (congrArg (Value.int .i64) ?_ : Value.int .i64 _ = Value.int .i64 _); unfold wrap64; omega) | fail)) | fail) ?_; (with_reducible refine (ancepsref56_Turned.calls (a0_1.extract 0 (a1 : Int).toNat) a2 t242 _ A22.out).mono ?_); rintro e w26 ⟨rfl, hb⟩; refine ⟨_, rfl, ?_⟩; have n0_ := Aside0.mk (blk_below (g := gb240) (o := .cells #[.string a0_0, .string a0_1] 33 (0, 0)) (by (with_reducible repeat (first | refine blk_drewN ?_ _ | refine blk_drew ?_ | refine blk_alloc ?_ _)); exact BK240.out) hb); have n1_ := Aside0.mk (blk_below (g := gb241) (o := .cells #[.string (⟨#[]⟩ : ByteArray), .string (⟨#[]⟩ : ByteArray)] 33 (0, 0)) (by (with_reducible repeat (first | refine blk_drewN ?_ _ | refine blk_drew ?_ | refine blk_alloc ?_ _)); exact BK241.out) hb); have n2_ := Aside0.mk (below_step (by repeat (first | (with_reducible first | exact HB.out | apply below_alloc | apply pw_below_drewN | apply below_drew1 | refine below_set ?_ GE240.out | refine below_set ?_ GE241.out) | exact HB.out)) hb); clear BK240; clear BK241; clear HB; have BK240 := n0_; have BK241 := n1_; have HB := n2_; clear n0_ n1_ n2_; (try clear hb); (try clear hb2); (try clear hk); (try clear hi); have hcz27_0 : w26.cell? ⟨gb240, 0, none⟩ = some (.string a0_0) := (blk_cell BK240.out 0).trans rfl; have hcz27_1 : w26.cell? ⟨gb240, 1, none⟩ = some (.string a0_1) := (blk_cell BK240.out 1).trans rfl; have hfz27_0 := blk_frozen BK240.out 0; have hfz27_1 := blk_frozen BK240.out 1; have hcz28_0 : w26.cell? ⟨gb241, 0, none⟩ = some (.string (⟨#[]⟩ : ByteArray)) := (blk_cell BK241.out 0).trans rfl; have hcz28_1 : w26.cell? ⟨gb241, 1, none⟩ = some (.string (⟨#[]⟩ : ByteArray)) := (blk_cell BK241.out 1).trans rfl; have hfz28_0 := blk_frozen BK241.out 0; have hfz28_1 := blk_frozen BK241.out 1))
                refine bodyPost_ret (results_ct rfl _ _ gb241 33 #[.string (a0_0 ++ t242), .string (⟨#[]⟩ : ByteArray)] (0, 0) _ rfl (by (with_reducible repeat (first | refine blk_drewN ?_ _ | refine blk_drew ?_ | refine blk_alloc ?_ _)); refine blk_put (cs := #[.string (a0_0 ++ t242), .string (⟨#[]⟩ : ByteArray)]) ?_ 1 _ rfl; (with_reducible repeat (first | refine blk_drewN ?_ _ | refine blk_drew ?_ | refine blk_alloc ?_ _)); refine blk_put (cs := #[.string (⟨#[]⟩ : ByteArray), .string (⟨#[]⟩ : ByteArray)]) ?_ 0 _ rfl; (with_reducible repeat (first | refine blk_drewN ?_ _ | refine blk_drew ?_ | refine blk_alloc ?_ _)); exact BK241.out) Try.underlying33 rfl (by kernel_rfl)) rfl ?_
                exact ⟨by first | rfl | (simp [errW_none, errW_some] <;> rfl) | (simp [*, errW_none, errW_some] <;> rfl), by repeat (first | (with_reducible first | exact HB.out | apply below_alloc | apply pw_below_drewN | apply below_drew1 | refine below_set ?_ GE240.out | refine below_set ?_ GE241.out) | exact HB.out)⟩
              · rw [if_neg c23] at H
                exact absurd H (by simp)
            · rw [if_neg c21] at H
              have c21b0 : decide (0 ≤ a2) = false := decide_eq_false c21
              clear c21
              by_cases c29 : a0_0.size + (a0_1.extract 0 (a1 : Int).toNat).size ≤ 9223372036854775807
              · rw [if_pos c29] at H
                have c29b0 := eq_true c29
                have c29b1 : decide (a0_0.size + (a0_1.extract 0 (a1 : Int).toNat).size ≤ 9223372036854775807) = true := decide_eq_true c29
                try have c29b2 : (9223372036854775807 < a0_0.size + (a0_1.extract 0 (a1 : Int).toNat).size) = False := eq_false (Nat.not_lt.2 c29)
                simp only [Option.some.injEq, Prod.mk.injEq] at H
                obtain ⟨rfl, rfl, rfl⟩ := H
                have hnb30 := NB240_241.out
                have hnc30 := NB241_240.out
                have hcz31_0 : wc.cell? ⟨gb240, 0, none⟩ = some (.string a0_0) := (blk_cell BK240.out 0).trans rfl
                have hcz31_1 : wc.cell? ⟨gb240, 1, none⟩ = some (.string a0_1) := (blk_cell BK240.out 1).trans rfl
                have hfz31_0 := blk_frozen BK240.out 0
                have hfz31_1 := blk_frozen BK240.out 1
                have hcz32_0 : wc.cell? ⟨gb241, 0, none⟩ = some (.string (⟨#[]⟩ : ByteArray)) := (blk_cell BK241.out 0).trans rfl
                have hcz32_1 : wc.cell? ⟨gb241, 1, none⟩ = some (.string (⟨#[]⟩ : ByteArray)) := (blk_cell BK241.out 1).trans rfl
                have hfz32_0 := blk_frozen BK241.out 0
                have hfz32_1 := blk_frozen BK241.out 1
                go_wp2
                refine bodyPost_ret (results_ct rfl _ _ gb241 33 #[.string (a0_0 ++ (a0_1.extract 0 (a1 : Int).toNat)), .string (⟨#[]⟩ : ByteArray)] (0, 0) _ rfl (by (with_reducible repeat (first | refine blk_drewN ?_ _ | refine blk_drew ?_ | refine blk_alloc ?_ _)); refine blk_put (cs := #[.string (a0_0 ++ (a0_1.extract 0 (a1 : Int).toNat)), .string (⟨#[]⟩ : ByteArray)]) ?_ 1 _ rfl; (with_reducible repeat (first | refine blk_drewN ?_ _ | refine blk_drew ?_ | refine blk_alloc ?_ _)); refine blk_put (cs := #[.string (⟨#[]⟩ : ByteArray), .string (⟨#[]⟩ : ByteArray)]) ?_ 0 _ rfl; (with_reducible repeat (first | refine blk_drewN ?_ _ | refine blk_drew ?_ | refine blk_alloc ?_ _)); exact BK241.out) Try.underlying33 rfl (by kernel_rfl)) rfl ?_
                exact ⟨by first | rfl | (simp [errW_none, errW_some] <;> rfl) | (simp [*, errW_none, errW_some] <;> rfl), by repeat (first | (with_reducible first | exact HB.out | apply below_alloc | apply pw_below_drewN | apply below_drew1 | refine below_set ?_ GE240.out | refine below_set ?_ GE241.out) | exact HB.out)⟩
              · rw [if_neg c29] at H
                exact absurd H (by simp)
          · rw [if_neg c20] at H
            exact absurd H (by simp)
        · rw [if_neg c19] at H
          exact absurd H (by simp)

/-! ### ancepslaw56_JournalCrash: function 6 -/
def ancepslaw56_JournalCrash.j0 : Nat → Int → Int → Bool → ByteArray → ByteArray → Option (Bool)
  | 0, _, _, _, _, _ => none
  | k + 1, x1, x2, x17, x244000, x244001 => if x17 = true then ((ancepslaw56_awake.f k).bind fun t246 => (some t246)) else ((journal_Crash.f x244000 x244001 x1 x2).bind fun bt247 => ((ancepsref56_Crash.f k x244000 x244001 x1 x2).bind fun bt251 => (if (bt247.1.toList == bt251.1.toList && (bt247.2.1.toList == bt251.2.1.toList)) = true then (some (bt247.2.2 == bt251.2.2)) else (some false))))
def ancepslaw56_JournalCrash.f (k : Nat) (a0_0 : ByteArray) (a0_1 : ByteArray) (a1 : Int) (a2 : Int) : Option (Bool) := (ancepslaw56_awake.f k).bind fun t244 => (if t244 = true then ((ancepsref56_Few.f a0_0 a0_1).bind fun t245 => (ancepslaw56_JournalCrash.j0 k a1 a2 (!t245) a0_0 a0_1)) else (ancepslaw56_JournalCrash.j0 k a1 a2 true a0_0 a0_1))
theorem ancepslaw56_JournalCrash.mono_l : ∀ k, (∀ y0 y1 y2 y3 y4, LeO (ancepslaw56_JournalCrash.j0 k y0 y1 y2 y3 y4) (ancepslaw56_JournalCrash.j0 (k + 1) y0 y1 y2 y3 y4))
  | 0 => fun _ _ _ _ _ r h => by simp [ancepslaw56_JournalCrash.j0] at h
  | k + 1 => by
    have ih0 := ancepslaw56_JournalCrash.mono_l k
    · intro y0 y1 y2 y3 y4
      unfold ancepslaw56_JournalCrash.j0
      repeat' first
      | (with_reducible exact ih0 _ _ _ _ _)
      | (with_reducible exact ancepslaw56_awake.mono _)
      | (with_reducible exact ancepsref56_Crash.mono _ _ _ _ _)
      | (with_reducible exact LeO.refl _)
      | (with_reducible exact LeO.none _)
      | (with_reducible refine LeO.ite ?_ ?_)
      | (with_reducible refine LeO.bind ?_ (fun _ => ?_))
      | exact ih0 _ _ _ _ _
      | exact ancepslaw56_awake.mono _
      | exact ancepsref56_Crash.mono _ _ _ _ _
      | exact LeO.none _
      | refine LeO.ite ?_ ?_
      | refine LeO.bind ?_ (fun _ => ?_)
theorem ancepslaw56_JournalCrash.mono : ∀ a0 a1 a2 a3 k, LeO (ancepslaw56_JournalCrash.f k a0 a1 a2 a3) (ancepslaw56_JournalCrash.f (k + 1) a0 a1 a2 a3) := by
  intro a0 a1 a2 a3 k
  have ih0 := ancepslaw56_JournalCrash.mono_l k
  unfold ancepslaw56_JournalCrash.f
  repeat' first
      | (with_reducible exact ih0 _ _ _ _ _)
      | (with_reducible exact ancepslaw56_awake.mono _)
      | (with_reducible exact ancepsref56_Crash.mono _ _ _ _ _)
      | (with_reducible exact LeO.refl _)
      | (with_reducible exact LeO.none _)
      | (with_reducible refine LeO.ite ?_ ?_)
      | (with_reducible refine LeO.bind ?_ (fun _ => ?_))
      | exact ih0 _ _ _ _ _
      | exact ancepslaw56_awake.mono _
      | exact ancepsref56_Crash.mono _ _ _ _ _
      | exact LeO.none _
      | refine LeO.ite ?_ ?_
      | refine LeO.bind ?_ (fun _ => ?_)
set_option maxHeartbeats 8000000 in
set_option maxRecDepth 100000 in
theorem ancepslaw56_JournalCrash.calls (k : Nat) (a0_0 : ByteArray) (a0_1 : ByteArray) (a1 : Int) (a2 : Int) (r : Bool) (w : World) (h : ancepslaw56_JournalCrash.f k a0_0 a0_1 a1 a2 = some r) :
    Calls Try.prog 6 #[.agg #[.string a0_0, .string a0_1], .int .i64 a1, .int .i64 a2] w fun e w' => e = .returned (.bool r) ∧ Below w.heap.size w w' := by
  have hu33 := Try.underlying33
  have HB := Aside0.mk (Below.refl w.heap.size w)
  have H : ((ancepslaw56_awake.f k).bind fun t244 => (if t244 = true then ((ancepsref56_Few.f a0_0 a0_1).bind fun t245 => (ancepslaw56_JournalCrash.j0 k a1 a2 (!t245) a0_0 a0_1)) else (ancepslaw56_JournalCrash.j0 k a1 a2 true a0_0 a0_1))) = some r := h
  clear h
  have HC4 := Aside0.mk H
  clear H
  go_enter Try.func6, Try.ntmps6
  go_upto_region 1 with (first | ((with_reducible refine gate_dst (N := 3) rfl ?_); refine box_event ?hg (N := 3) ?hd (cs := #[.string a0_0, .string a0_1]) (t := 33) ?hr ?_; (case hd => rfl); (case hg => rfl); (case hr => first | (go_simp; done) | (go_simp; rfl)); intro gb243 hg w5 hbox hb; have n0_ := Aside0.mk (below_step (by repeat (first | (with_reducible first | exact HB.out | apply below_alloc | apply pw_below_drewN | apply below_drew1) | exact HB.out)) hb); have n1_ := Aside0.mk (hbox); have n2_ := Aside0.mk ((by rw [hg]; exact (below_size (by repeat (first | (with_reducible first | exact HB.out | apply below_alloc | apply pw_below_drewN | apply below_drew1) | exact HB.out))) : w.heap.size ≤ gb243)); have n3_ := Aside0.mk ((by rw [hg]; exact (below_size (by repeat (first | (with_reducible first | exact HB.out | apply below_alloc | apply pw_below_drewN | apply below_drew1) | exact HB.out))) : w.heap.size ≤ gb243)); clear HB; have HB := n0_; have BK243 := n1_; have GW243 := n2_; have GE243 := n3_; clear n0_ n1_ n2_ n3_; clear hb hbox hg))
  (try simp only [Act.put, List.setIfInBounds_toArray, List.set_cons_zero, List.set_cons_succ])
  go_cut [17] (fun v17 wc => ∃ (kq : Nat) (x17_3 : Bool), v17 = .bool x17_3 ∧ Aside0 (ancepslaw56_JournalCrash.j0 kq a1 a2 x17_3 a0_0 a0_1 = some r) ∧ Aside0 (kq ≤ k) ∧ Aside0 (wc.heap[gb243]? = some (.cells #[.string a0_0, .string a0_1] 33 (0, 0))) ∧ Aside0 (Below w.heap.size w wc))
  case first =>
    have H := HC4.out
    clear HC4
    replace H := Option.bind_eq_some_iff.mp H
    obtain ⟨t244, A60, H⟩ := H
    replace H : (if t244 = true then ((ancepsref56_Few.f a0_0 a0_1).bind fun t245 => (ancepslaw56_JournalCrash.j0 k a1 a2 (!t245) a0_0 a0_1)) else (ancepslaw56_JournalCrash.j0 k a1 a2 true a0_0 a0_1)) = some r := H
    have A6 := Aside0.mk A60
    clear A60
    by_cases c7 : t244 = true
    · subst c7
      have H1 : ((ancepsref56_Few.f a0_0 a0_1).bind fun t245 => (ancepslaw56_JournalCrash.j0 k a1 a2 (!t245) a0_0 a0_1)) = some r := by rw [if_pos rfl] at H; exact H
      clear H
      have H := H1
      clear H1
      replace H := Option.bind_eq_some_iff.mp H
      obtain ⟨t245, A80, H⟩ := H
      replace H : (ancepslaw56_JournalCrash.j0 k a1 a2 (!t245) a0_0 a0_1) = some r := H
      have A8 := Aside0.mk A80
      clear A80
      have H' := Aside0.mk H
      clear H
      go_wp2_with (first | ((with_reducible refine gate_callee (f := 11) rfl ?_); refine goesL_ (some 11) rfl rfl Try.func11 (by kernel_rfl) rfl #[] rfl (by (try simp only [List.map_toArray, List.map_cons, List.map_nil]); first | done | rfl | (simp only [List.length_drop, List.length_take]; rfl) | (simp only [decide_eq_true_eq, decide_eq_false_iff_not] at *; congr <;> (first | rfl | (refine (congrArg (Value.int .i64) ?_ : Value.int .i64 _ = Value.int .i64 _); unfold wrap64; omega) | fail)) | fail) ?_; (with_reducible refine (ancepslaw56_awake.calls k  true _ A6.out).mono ?_); rintro e w9 ⟨rfl, hb⟩; refine ⟨_, rfl, ?_⟩; have n0_ := Aside0.mk (blk_below (g := gb243) (o := .cells #[.string a0_0, .string a0_1] 33 (0, 0)) (by (with_reducible repeat (first | refine blk_drewN ?_ _ | refine blk_drew ?_ | refine blk_alloc ?_ _)); exact BK243.out) hb); have n1_ := Aside0.mk (below_step (by repeat (first | (with_reducible first | exact HB.out | apply below_alloc | apply pw_below_drewN | apply below_drew1 | refine below_set ?_ GE243.out) | exact HB.out)) hb); clear BK243; clear HB; have BK243 := n0_; have HB := n1_; clear n0_ n1_; (try clear hb); (try clear hb2); (try clear hk); (try clear hi); have hcz10_0 : w9.cell? ⟨gb243, 0, none⟩ = some (.string a0_0) := (blk_cell BK243.out 0).trans rfl; have hcz10_1 : w9.cell? ⟨gb243, 1, none⟩ = some (.string a0_1) := (blk_cell BK243.out 1).trans rfl; have hfz10_0 := blk_frozen BK243.out 0; have hfz10_1 := blk_frozen BK243.out 1) | (go_at_call 20; (with_reducible refine (ancepsref56_Few.calls a0_0 a0_1 t245 _ A8.out).mono ?_); rintro e w11 ⟨rfl, hb⟩; have n0_ := Aside0.mk (blk_below (g := gb243) (o := .cells #[.string a0_0, .string a0_1] 33 (0, 0)) (by (with_reducible repeat (first | refine blk_drewN ?_ _ | refine blk_drew ?_ | refine blk_alloc ?_ _)); exact BK243.out) hb); have n1_ := Aside0.mk (below_step (by repeat (first | (with_reducible first | exact HB.out | apply below_alloc | apply pw_below_drewN | apply below_drew1 | refine below_set ?_ GE243.out) | exact HB.out)) hb); clear BK243; clear HB; have BK243 := n0_; have HB := n1_; clear n0_ n1_; (try clear hb); (try clear hb2); (try clear hk); (try clear hi)))
      go_meet
      case rel => exact ⟨_, (!t245), (by first | rfl | (simp; done) | (simp [*]; done)), H', ⟨by first | omega | exact Nat.le_refl _⟩, ⟨by (with_reducible repeat (first | refine blk_drewN ?_ _ | refine blk_drew ?_ | refine blk_alloc ?_ _)); exact BK243.out⟩, ⟨by repeat (first | (with_reducible first | exact HB.out | apply below_alloc | apply pw_below_drewN | apply below_drew1 | refine below_set ?_ GE243.out) | exact HB.out)⟩⟩
    · replace c7 := Bool.eq_false_iff.mpr c7
      subst c7
      have H1 : (ancepslaw56_JournalCrash.j0 k a1 a2 true a0_0 a0_1) = some r := by rw [if_neg (show ¬ (false = true) by decide)] at H; exact H
      clear H
      have H := H1
      clear H1
      have H' := Aside0.mk H
      clear H
      go_wp2_with (first | ((with_reducible refine gate_callee (f := 11) rfl ?_); refine goesL_ (some 11) rfl rfl Try.func11 (by kernel_rfl) rfl #[] rfl (by (try simp only [List.map_toArray, List.map_cons, List.map_nil]); first | done | rfl | (simp only [List.length_drop, List.length_take]; rfl) | (simp only [decide_eq_true_eq, decide_eq_false_iff_not] at *; congr <;> (first | rfl | (refine (congrArg (Value.int .i64) ?_ : Value.int .i64 _ = Value.int .i64 _); unfold wrap64; omega) | fail)) | fail) ?_; (with_reducible refine (ancepslaw56_awake.calls k  false _ A6.out).mono ?_); rintro e w12 ⟨rfl, hb⟩; refine ⟨_, rfl, ?_⟩; have n0_ := Aside0.mk (blk_below (g := gb243) (o := .cells #[.string a0_0, .string a0_1] 33 (0, 0)) (by (with_reducible repeat (first | refine blk_drewN ?_ _ | refine blk_drew ?_ | refine blk_alloc ?_ _)); exact BK243.out) hb); have n1_ := Aside0.mk (below_step (by repeat (first | (with_reducible first | exact HB.out | apply below_alloc | apply pw_below_drewN | apply below_drew1 | refine below_set ?_ GE243.out) | exact HB.out)) hb); clear BK243; clear HB; have BK243 := n0_; have HB := n1_; clear n0_ n1_; (try clear hb); (try clear hb2); (try clear hk); (try clear hi)))
      go_meet
      case rel => exact ⟨_, (true), (by first | rfl | (simp; done) | (simp [*]; done)), H', ⟨by first | omega | exact Nat.le_refl _⟩, ⟨by (with_reducible repeat (first | refine blk_drewN ?_ _ | refine blk_drew ?_ | refine blk_alloc ?_ _)); exact BK243.out⟩, ⟨by repeat (first | (with_reducible first | exact HB.out | apply below_alloc | apply pw_below_drewN | apply below_drew1 | refine below_set ?_ GE243.out) | exact HB.out)⟩⟩
  case rest =>
    clear HC4
    try clear c1
    try clear p2
    try clear c6
    try clear p6
    try clear c7
    try clear c11
    try clear hcz10_0
    try clear hcz10_1
    try clear hfz10_0
    try clear hfz10_1
    obtain ⟨kq, x17_3, rfl, HA, HJ3, BK243, HB⟩ := hcut
    cases kq with
    | zero => exact absurd HA.out (by simp [ancepslaw56_JournalCrash.j0])
    | succ kj3 =>
      have H := HA.out
      clear HA
      simp only [ancepslaw56_JournalCrash.j0] at H
      by_cases c13 : x17_3 = true
      · subst c13
        have H1 : ((ancepslaw56_awake.f kj3).bind fun t246 => (some t246)) = some r := by rw [if_pos rfl] at H; exact H
        clear H
        have H := H1
        clear H1
        replace H := Option.bind_eq_some_iff.mp H
        obtain ⟨t246, A140, H⟩ := H
        replace H : (some t246) = some r := H
        have A14 := Aside0.mk A140
        clear A140
        obtain rfl := Option.some.inj H
        go_wp2_with (first | ((with_reducible refine gate_callee (f := 11) rfl ?_); refine goesL_ (some 18) rfl rfl Try.func11 (by kernel_rfl) rfl #[] rfl (by (try simp only [List.map_toArray, List.map_cons, List.map_nil]); first | done | rfl | (simp only [List.length_drop, List.length_take]; rfl) | (simp only [decide_eq_true_eq, decide_eq_false_iff_not] at *; congr <;> (first | rfl | (refine (congrArg (Value.int .i64) ?_ : Value.int .i64 _ = Value.int .i64 _); unfold wrap64; omega) | fail)) | fail) ?_; (with_reducible refine (ancepslaw56_awake.calls kj3  t246 _ A14.out).mono ?_); rintro e w15 ⟨rfl, hb⟩; refine ⟨_, rfl, ?_⟩; have n0_ := Aside0.mk (blk_below (g := gb243) (o := .cells #[.string a0_0, .string a0_1] 33 (0, 0)) (by (with_reducible repeat (first | refine blk_drewN ?_ _ | refine blk_drew ?_ | refine blk_alloc ?_ _)); exact BK243.out) hb); have n1_ := Aside0.mk (below_step (by repeat (first | (with_reducible first | exact HB.out | apply below_alloc | apply pw_below_drewN | apply below_drew1 | refine below_set ?_ GE243.out) | exact HB.out)) hb); clear BK243; clear HB; have BK243 := n0_; have HB := n1_; clear n0_ n1_; (try clear hb); (try clear hb2); (try clear hk); (try clear hi)))
        go_ret
        exact ⟨by first | rfl | (simp [errW_none, errW_some] <;> rfl) | (simp [*, errW_none, errW_some] <;> rfl), by repeat (first | (with_reducible first | exact HB.out | apply below_alloc | apply pw_below_drewN | apply below_drew1 | refine below_set ?_ GE243.out) | exact HB.out)⟩
      · replace c13 := Bool.eq_false_iff.mpr c13
        subst c13
        have H1 : ((journal_Crash.f a0_0 a0_1 a1 a2).bind fun bt247 => ((ancepsref56_Crash.f kj3 a0_0 a0_1 a1 a2).bind fun bt251 => (if (bt247.1.toList == bt251.1.toList && (bt247.2.1.toList == bt251.2.1.toList)) = true then (some (bt247.2.2 == bt251.2.2)) else (some false)))) = some r := by rw [if_neg (show ¬ (false = true) by decide)] at H; exact H
        clear H
        have H := H1
        clear H1
        replace H := Option.bind_eq_some_iff.mp H
        obtain ⟨⟨t247, t248, t249⟩, A160, H⟩ := H
        replace H : ((ancepsref56_Crash.f kj3 a0_0 a0_1 a1 a2).bind fun bt251 => (if (t247.toList == bt251.1.toList && (t248.toList == bt251.2.1.toList)) = true then (some (t249 == bt251.2.2)) else (some false))) = some r := H
        have A16 := Aside0.mk A160
        clear A160
        replace H := Option.bind_eq_some_iff.mp H
        obtain ⟨⟨t251, t252, t253⟩, A170, H⟩ := H
        replace H : (if (t247.toList == t251.toList && (t248.toList == t252.toList)) = true then (some (t249 == t253)) else (some false)) = some r := H
        have A17 := Aside0.mk A170
        clear A170
        by_cases c18 : (t247.toList == t251.toList && (t248.toList == t252.toList)) = true
        · rw [if_pos c18] at H
          have c18b0 : (t247.toList == t251.toList && (t248.toList == t252.toList)) = true := c18
          (try (have c18b1 : decide (t247.toList = t251.toList && (t248.toList == t252.toList)) = true := by simpa using c18))
          (try (have c18b2 : (t247.toList == t251.toList && (t248.toList == t252.toList)) = true := by simpa using c18))
          clear c18
          obtain rfl := Option.some.inj H
          have hcz19_0 : wc.cell? ⟨gb243, 0, none⟩ = some (.string a0_0) := (blk_cell BK243.out 0).trans rfl
          have hcz19_1 : wc.cell? ⟨gb243, 1, none⟩ = some (.string a0_1) := (blk_cell BK243.out 1).trans rfl
          have hfz19_0 := blk_frozen BK243.out 0
          have hfz19_1 := blk_frozen BK243.out 1
          go_wp2_with (first | ((with_reducible refine gate_callee (f := 27) rfl ?_); refine goesL_ (some 23) rfl rfl Try.func27 (by kernel_rfl) rfl #[.agg #[.string a0_0, .string a0_1], .int .i64 a1, .int .i64 a2] rfl (by (try simp only [List.map_toArray, List.map_cons, List.map_nil]); first | done | rfl | (simp only [List.length_drop, List.length_take]; rfl) | (simp only [decide_eq_true_eq, decide_eq_false_iff_not] at *; congr <;> (first | rfl | (refine (congrArg (Value.int .i64) ?_ : Value.int .i64 _ = Value.int .i64 _); unfold wrap64; omega) | fail)) | fail) ?_; (with_reducible refine (journal_Crash.calls a0_0 a0_1 a1 a2 t247 t248 t249 _ A16.out).mono ?_); rintro e w20 ⟨rfl, hb⟩; refine ⟨_, rfl, ?_⟩; have n0_ := Aside0.mk (blk_below (g := gb243) (o := .cells #[.string a0_0, .string a0_1] 33 (0, 0)) (by (with_reducible repeat (first | refine blk_drewN ?_ _ | refine blk_drew ?_ | refine blk_alloc ?_ _)); exact BK243.out) hb); have n1_ := Aside0.mk (below_step (by repeat (first | (with_reducible first | exact HB.out | apply below_alloc | apply pw_below_drewN | apply below_drew1 | refine below_set ?_ GE243.out) | exact HB.out)) hb); clear BK243; clear HB; have BK243 := n0_; have HB := n1_; clear n0_ n1_; (try clear hb); (try clear hb2); (try clear hk); (try clear hi)) | ((with_reducible refine gate_dst (N := 7) rfl ?_); refine box_event ?hg (N := 7) ?hd (cs := #[.string (⟨#[]⟩ : ByteArray), .string (⟨#[]⟩ : ByteArray)]) (t := 33) ?hr ?_; (case hd => rfl); (case hg => rfl); (case hr => first | (go_simp; done) | (go_simp; rfl)); intro gb250 hg w21 hbox hb; have n0_ := Aside0.mk (blk_below (g := gb243) (o := .cells #[.string a0_0, .string a0_1] 33 (0, 0)) (by (with_reducible repeat (first | refine blk_drewN ?_ _ | refine blk_drew ?_ | refine blk_alloc ?_ _)); exact BK243.out) hb); have n1_ := Aside0.mk (below_step (by repeat (first | (with_reducible first | exact HB.out | apply below_alloc | apply pw_below_drewN | apply below_drew1 | refine below_set ?_ GE243.out) | exact HB.out)) hb); have n2_ := Aside0.mk (hbox); have n3_ := Aside0.mk ((by rw [hg]; exact (below_size (by repeat (first | (with_reducible first | exact HB.out | apply below_alloc | apply pw_below_drewN | apply below_drew1 | refine below_set ?_ GE243.out) | exact HB.out))) : w.heap.size ≤ gb250)); have n4_ := Aside0.mk ((by rw [hg]; exact (below_size (by repeat (first | (with_reducible first | exact HB.out | apply below_alloc | apply pw_below_drewN | apply below_drew1 | refine below_set ?_ GE243.out) | exact HB.out))) : w.heap.size ≤ gb250)); have n5_ := Aside0.mk ((by rw [hg]; exact Nat.ne_of_lt (blk_lt (g := gb243) (o := .cells #[.string a0_0, .string a0_1] 33 (0, 0)) (by (with_reducible repeat (first | refine blk_drewN ?_ _ | refine blk_drew ?_ | refine blk_alloc ?_ _)); exact BK243.out)) : gb243 ≠ gb250)); have n6_ := Aside0.mk ((by rw [hg]; exact Nat.ne_of_gt (blk_lt (g := gb243) (o := .cells #[.string a0_0, .string a0_1] 33 (0, 0)) (by (with_reducible repeat (first | refine blk_drewN ?_ _ | refine blk_drew ?_ | refine blk_alloc ?_ _)); exact BK243.out)) : gb250 ≠ gb243)); clear BK243; clear HB; have BK243 := n0_; have HB := n1_; have BK250 := n2_; have GW250 := n3_; have GE250 := n4_; have NB243_250 := n5_; have NB250_243 := n6_; clear n0_ n1_ n2_ n3_ n4_ n5_ n6_; clear hb hbox hg; have hnb22 := NB250_243.out; have hnc22 := NB243_250.out; have hcz23_0 : w21.cell? ⟨gb250, 0, none⟩ = some (.string (⟨#[]⟩ : ByteArray)) := (blk_cell BK250.out 0).trans rfl; have hcz23_1 : w21.cell? ⟨gb250, 1, none⟩ = some (.string (⟨#[]⟩ : ByteArray)) := (blk_cell BK250.out 1).trans rfl; have hfz23_0 := blk_frozen BK250.out 0; have hfz23_1 := blk_frozen BK250.out 1; have hcz24_0 : w21.cell? ⟨gb243, 0, none⟩ = some (.string a0_0) := (blk_cell BK243.out 0).trans rfl; have hcz24_1 : w21.cell? ⟨gb243, 1, none⟩ = some (.string a0_1) := (blk_cell BK243.out 1).trans rfl; have hfz24_0 := blk_frozen BK243.out 0; have hfz24_1 := blk_frozen BK243.out 1) | ((with_reducible refine gate_callee (f := 28) rfl ?_); refine goesL_ (some 30) rfl rfl Try.func28 (by kernel_rfl) rfl #[.agg #[.string a0_0, .string a0_1], .int .i64 a1, .int .i64 a2] rfl (by (try simp only [List.map_toArray, List.map_cons, List.map_nil]); first | done | rfl | (simp only [List.length_drop, List.length_take]; rfl) | (simp only [decide_eq_true_eq, decide_eq_false_iff_not] at *; congr <;> (first | rfl | (refine (congrArg (Value.int .i64) ?_ : Value.int .i64 _ = Value.int .i64 _); unfold wrap64; omega) | fail)) | fail) ?_; (with_reducible refine (ancepsref56_Crash.calls kj3 a0_0 a0_1 a1 a2 t251 t252 t253 _ A17.out).mono ?_); rintro e w25 ⟨rfl, hb⟩; refine ⟨_, rfl, ?_⟩; have n0_ := Aside0.mk (blk_below (g := gb243) (o := .cells #[.string a0_0, .string a0_1] 33 (0, 0)) (by (with_reducible repeat (first | refine blk_drewN ?_ _ | refine blk_drew ?_ | refine blk_alloc ?_ _)); refine blk_far ?_ NB243_250.out _; (with_reducible repeat (first | refine blk_drewN ?_ _ | refine blk_drew ?_ | refine blk_alloc ?_ _)); refine blk_far ?_ NB243_250.out _; (with_reducible repeat (first | refine blk_drewN ?_ _ | refine blk_drew ?_ | refine blk_alloc ?_ _)); exact BK243.out) hb); have n1_ := Aside0.mk (blk_below (g := gb250) (o := .cells #[.string t247, .string t248] 33 (0, 0)) (by (with_reducible repeat (first | refine blk_drewN ?_ _ | refine blk_drew ?_ | refine blk_alloc ?_ _)); refine blk_put (cs := #[.string t247, .string (⟨#[]⟩ : ByteArray)]) ?_ 1 _ rfl; (with_reducible repeat (first | refine blk_drewN ?_ _ | refine blk_drew ?_ | refine blk_alloc ?_ _)); refine blk_put (cs := #[.string (⟨#[]⟩ : ByteArray), .string (⟨#[]⟩ : ByteArray)]) ?_ 0 _ rfl; (with_reducible repeat (first | refine blk_drewN ?_ _ | refine blk_drew ?_ | refine blk_alloc ?_ _)); exact BK250.out) hb); have n2_ := Aside0.mk (below_step (by repeat (first | (with_reducible first | exact HB.out | apply below_alloc | apply pw_below_drewN | apply below_drew1 | refine below_set ?_ GE243.out | refine below_set ?_ GE250.out) | exact HB.out)) hb); clear BK243; clear BK250; clear HB; have BK243 := n0_; have BK250 := n1_; have HB := n2_; clear n0_ n1_ n2_; (try clear hb); (try clear hb2); (try clear hk); (try clear hi)) | ((with_reducible refine gate_dst (N := 9) rfl ?_); refine box_event ?hg (N := 9) ?hd (cs := #[.string (⟨#[]⟩ : ByteArray), .string (⟨#[]⟩ : ByteArray)]) (t := 33) ?hr ?_; (case hd => rfl); (case hg => rfl); (case hr => first | (go_simp; done) | (go_simp; rfl)); intro gb254 hg w26 hbox hb; have n0_ := Aside0.mk (blk_below (g := gb243) (o := .cells #[.string a0_0, .string a0_1] 33 (0, 0)) (by (with_reducible repeat (first | refine blk_drewN ?_ _ | refine blk_drew ?_ | refine blk_alloc ?_ _)); exact BK243.out) hb); have n1_ := Aside0.mk (blk_below (g := gb250) (o := .cells #[.string t247, .string t248] 33 (0, 0)) (by (with_reducible repeat (first | refine blk_drewN ?_ _ | refine blk_drew ?_ | refine blk_alloc ?_ _)); exact BK250.out) hb); have n2_ := Aside0.mk (below_step (by repeat (first | (with_reducible first | exact HB.out | apply below_alloc | apply pw_below_drewN | apply below_drew1 | refine below_set ?_ GE243.out | refine below_set ?_ GE250.out) | exact HB.out)) hb); have n3_ := Aside0.mk (hbox); have n4_ := Aside0.mk ((by rw [hg]; exact (below_size (by repeat (first | (with_reducible first | exact HB.out | apply below_alloc | apply pw_below_drewN | apply below_drew1 | refine below_set ?_ GE243.out | refine below_set ?_ GE250.out) | exact HB.out))) : w.heap.size ≤ gb254)); have n5_ := Aside0.mk ((by rw [hg]; exact (below_size (by repeat (first | (with_reducible first | exact HB.out | apply below_alloc | apply pw_below_drewN | apply below_drew1 | refine below_set ?_ GE243.out | refine below_set ?_ GE250.out) | exact HB.out))) : w.heap.size ≤ gb254)); have n6_ := Aside0.mk ((by rw [hg]; exact Nat.ne_of_lt (blk_lt (g := gb243) (o := .cells #[.string a0_0, .string a0_1] 33 (0, 0)) (by (with_reducible repeat (first | refine blk_drewN ?_ _ | refine blk_drew ?_ | refine blk_alloc ?_ _)); exact BK243.out)) : gb243 ≠ gb254)); have n7_ := Aside0.mk ((by rw [hg]; exact Nat.ne_of_gt (blk_lt (g := gb243) (o := .cells #[.string a0_0, .string a0_1] 33 (0, 0)) (by (with_reducible repeat (first | refine blk_drewN ?_ _ | refine blk_drew ?_ | refine blk_alloc ?_ _)); exact BK243.out)) : gb254 ≠ gb243)); have n8_ := Aside0.mk ((by rw [hg]; exact Nat.ne_of_lt (blk_lt (g := gb250) (o := .cells #[.string t247, .string t248] 33 (0, 0)) (by (with_reducible repeat (first | refine blk_drewN ?_ _ | refine blk_drew ?_ | refine blk_alloc ?_ _)); exact BK250.out)) : gb250 ≠ gb254)); have n9_ := Aside0.mk ((by rw [hg]; exact Nat.ne_of_gt (blk_lt (g := gb250) (o := .cells #[.string t247, .string t248] 33 (0, 0)) (by (with_reducible repeat (first | refine blk_drewN ?_ _ | refine blk_drew ?_ | refine blk_alloc ?_ _)); exact BK250.out)) : gb254 ≠ gb250)); clear BK243; clear BK250; clear HB; have BK243 := n0_; have BK250 := n1_; have HB := n2_; have BK254 := n3_; have GW254 := n4_; have GE254 := n5_; have NB243_254 := n6_; have NB254_243 := n7_; have NB250_254 := n8_; have NB254_250 := n9_; clear n0_ n1_ n2_ n3_ n4_ n5_ n6_ n7_ n8_ n9_; clear hb hbox hg; have hnb27 := NB254_243.out; have hnc27 := NB243_254.out; have hnb28 := NB254_250.out; have hnc28 := NB250_254.out; have hcz29_0 : w26.cell? ⟨gb254, 0, none⟩ = some (.string (⟨#[]⟩ : ByteArray)) := (blk_cell BK254.out 0).trans rfl; have hcz29_1 : w26.cell? ⟨gb254, 1, none⟩ = some (.string (⟨#[]⟩ : ByteArray)) := (blk_cell BK254.out 1).trans rfl; have hfz29_0 := blk_frozen BK254.out 0; have hfz29_1 := blk_frozen BK254.out 1; have hcz30_0 : w26.cell? ⟨gb250, 0, none⟩ = some (.string t247) := (blk_cell BK250.out 0).trans rfl; have hcz30_1 : w26.cell? ⟨gb250, 1, none⟩ = some (.string t248) := (blk_cell BK250.out 1).trans rfl; have hfz30_0 := blk_frozen BK250.out 0; have hfz30_1 := blk_frozen BK250.out 1))
          go_ret
          exact ⟨by first | rfl | (simp [errW_none, errW_some] <;> rfl) | (simp [*, errW_none, errW_some] <;> rfl), by repeat (first | (with_reducible first | exact HB.out | apply below_alloc | apply pw_below_drewN | apply below_drew1 | refine below_set ?_ GE243.out | refine below_set ?_ GE250.out | refine below_set ?_ GE254.out) | exact HB.out)⟩
        · rw [if_neg c18] at H
          have c18b0 : (t247.toList == t251.toList && (t248.toList == t252.toList)) = false := by simpa using c18
          (try (have c18b1 : decide (t247.toList = t251.toList && (t248.toList == t252.toList)) = false := by simpa using c18))
          (try (have c18b2 : (t247.toList == t251.toList && (t248.toList == t252.toList)) = false := by simpa using c18))
          (try (have c18b3 : ¬ (t247.toList = t251.toList && (t248.toList == t252.toList)) := by simpa using c18))
          clear c18
          obtain rfl := Option.some.inj H
          have hcz31_0 : wc.cell? ⟨gb243, 0, none⟩ = some (.string a0_0) := (blk_cell BK243.out 0).trans rfl
          have hcz31_1 : wc.cell? ⟨gb243, 1, none⟩ = some (.string a0_1) := (blk_cell BK243.out 1).trans rfl
          have hfz31_0 := blk_frozen BK243.out 0
          have hfz31_1 := blk_frozen BK243.out 1
          go_wp2_with (first | ((with_reducible refine gate_callee (f := 27) rfl ?_); refine goesL_ (some 23) rfl rfl Try.func27 (by kernel_rfl) rfl #[.agg #[.string a0_0, .string a0_1], .int .i64 a1, .int .i64 a2] rfl (by (try simp only [List.map_toArray, List.map_cons, List.map_nil]); first | done | rfl | (simp only [List.length_drop, List.length_take]; rfl) | (simp only [decide_eq_true_eq, decide_eq_false_iff_not] at *; congr <;> (first | rfl | (refine (congrArg (Value.int .i64) ?_ : Value.int .i64 _ = Value.int .i64 _); unfold wrap64; omega) | fail)) | fail) ?_; (with_reducible refine (journal_Crash.calls a0_0 a0_1 a1 a2 t247 t248 t249 _ A16.out).mono ?_); rintro e w32 ⟨rfl, hb⟩; refine ⟨_, rfl, ?_⟩; have n0_ := Aside0.mk (blk_below (g := gb243) (o := .cells #[.string a0_0, .string a0_1] 33 (0, 0)) (by (with_reducible repeat (first | refine blk_drewN ?_ _ | refine blk_drew ?_ | refine blk_alloc ?_ _)); exact BK243.out) hb); have n1_ := Aside0.mk (below_step (by repeat (first | (with_reducible first | exact HB.out | apply below_alloc | apply pw_below_drewN | apply below_drew1 | refine below_set ?_ GE243.out) | exact HB.out)) hb); clear BK243; clear HB; have BK243 := n0_; have HB := n1_; clear n0_ n1_; (try clear hb); (try clear hb2); (try clear hk); (try clear hi)) | ((with_reducible refine gate_dst (N := 7) rfl ?_); refine box_event ?hg (N := 7) ?hd (cs := #[.string (⟨#[]⟩ : ByteArray), .string (⟨#[]⟩ : ByteArray)]) (t := 33) ?hr ?_; (case hd => rfl); (case hg => rfl); (case hr => first | (go_simp; done) | (go_simp; rfl)); intro gb250 hg w33 hbox hb; have n0_ := Aside0.mk (blk_below (g := gb243) (o := .cells #[.string a0_0, .string a0_1] 33 (0, 0)) (by (with_reducible repeat (first | refine blk_drewN ?_ _ | refine blk_drew ?_ | refine blk_alloc ?_ _)); exact BK243.out) hb); have n1_ := Aside0.mk (below_step (by repeat (first | (with_reducible first | exact HB.out | apply below_alloc | apply pw_below_drewN | apply below_drew1 | refine below_set ?_ GE243.out) | exact HB.out)) hb); have n2_ := Aside0.mk (hbox); have n3_ := Aside0.mk ((by rw [hg]; exact (below_size (by repeat (first | (with_reducible first | exact HB.out | apply below_alloc | apply pw_below_drewN | apply below_drew1 | refine below_set ?_ GE243.out) | exact HB.out))) : w.heap.size ≤ gb250)); have n4_ := Aside0.mk ((by rw [hg]; exact (below_size (by repeat (first | (with_reducible first | exact HB.out | apply below_alloc | apply pw_below_drewN | apply below_drew1 | refine below_set ?_ GE243.out) | exact HB.out))) : w.heap.size ≤ gb250)); have n5_ := Aside0.mk ((by rw [hg]; exact Nat.ne_of_lt (blk_lt (g := gb243) (o := .cells #[.string a0_0, .string a0_1] 33 (0, 0)) (by (with_reducible repeat (first | refine blk_drewN ?_ _ | refine blk_drew ?_ | refine blk_alloc ?_ _)); exact BK243.out)) : gb243 ≠ gb250)); have n6_ := Aside0.mk ((by rw [hg]; exact Nat.ne_of_gt (blk_lt (g := gb243) (o := .cells #[.string a0_0, .string a0_1] 33 (0, 0)) (by (with_reducible repeat (first | refine blk_drewN ?_ _ | refine blk_drew ?_ | refine blk_alloc ?_ _)); exact BK243.out)) : gb250 ≠ gb243)); clear BK243; clear HB; have BK243 := n0_; have HB := n1_; have BK250 := n2_; have GW250 := n3_; have GE250 := n4_; have NB243_250 := n5_; have NB250_243 := n6_; clear n0_ n1_ n2_ n3_ n4_ n5_ n6_; clear hb hbox hg; have hnb34 := NB250_243.out; have hnc34 := NB243_250.out; have hcz35_0 : w33.cell? ⟨gb250, 0, none⟩ = some (.string (⟨#[]⟩ : ByteArray)) := (blk_cell BK250.out 0).trans rfl; have hcz35_1 : w33.cell? ⟨gb250, 1, none⟩ = some (.string (⟨#[]⟩ : ByteArray)) := (blk_cell BK250.out 1).trans rfl; have hfz35_0 := blk_frozen BK250.out 0; have hfz35_1 := blk_frozen BK250.out 1; have hcz36_0 : w33.cell? ⟨gb243, 0, none⟩ = some (.string a0_0) := (blk_cell BK243.out 0).trans rfl; have hcz36_1 : w33.cell? ⟨gb243, 1, none⟩ = some (.string a0_1) := (blk_cell BK243.out 1).trans rfl; have hfz36_0 := blk_frozen BK243.out 0; have hfz36_1 := blk_frozen BK243.out 1) | ((with_reducible refine gate_callee (f := 28) rfl ?_); refine goesL_ (some 30) rfl rfl Try.func28 (by kernel_rfl) rfl #[.agg #[.string a0_0, .string a0_1], .int .i64 a1, .int .i64 a2] rfl (by (try simp only [List.map_toArray, List.map_cons, List.map_nil]); first | done | rfl | (simp only [List.length_drop, List.length_take]; rfl) | (simp only [decide_eq_true_eq, decide_eq_false_iff_not] at *; congr <;> (first | rfl | (refine (congrArg (Value.int .i64) ?_ : Value.int .i64 _ = Value.int .i64 _); unfold wrap64; omega) | fail)) | fail) ?_; (with_reducible refine (ancepsref56_Crash.calls kj3 a0_0 a0_1 a1 a2 t251 t252 t253 _ A17.out).mono ?_); rintro e w37 ⟨rfl, hb⟩; refine ⟨_, rfl, ?_⟩; have n0_ := Aside0.mk (blk_below (g := gb243) (o := .cells #[.string a0_0, .string a0_1] 33 (0, 0)) (by (with_reducible repeat (first | refine blk_drewN ?_ _ | refine blk_drew ?_ | refine blk_alloc ?_ _)); refine blk_far ?_ NB243_250.out _; (with_reducible repeat (first | refine blk_drewN ?_ _ | refine blk_drew ?_ | refine blk_alloc ?_ _)); refine blk_far ?_ NB243_250.out _; (with_reducible repeat (first | refine blk_drewN ?_ _ | refine blk_drew ?_ | refine blk_alloc ?_ _)); exact BK243.out) hb); have n1_ := Aside0.mk (blk_below (g := gb250) (o := .cells #[.string t247, .string t248] 33 (0, 0)) (by (with_reducible repeat (first | refine blk_drewN ?_ _ | refine blk_drew ?_ | refine blk_alloc ?_ _)); refine blk_put (cs := #[.string t247, .string (⟨#[]⟩ : ByteArray)]) ?_ 1 _ rfl; (with_reducible repeat (first | refine blk_drewN ?_ _ | refine blk_drew ?_ | refine blk_alloc ?_ _)); refine blk_put (cs := #[.string (⟨#[]⟩ : ByteArray), .string (⟨#[]⟩ : ByteArray)]) ?_ 0 _ rfl; (with_reducible repeat (first | refine blk_drewN ?_ _ | refine blk_drew ?_ | refine blk_alloc ?_ _)); exact BK250.out) hb); have n2_ := Aside0.mk (below_step (by repeat (first | (with_reducible first | exact HB.out | apply below_alloc | apply pw_below_drewN | apply below_drew1 | refine below_set ?_ GE243.out | refine below_set ?_ GE250.out) | exact HB.out)) hb); clear BK243; clear BK250; clear HB; have BK243 := n0_; have BK250 := n1_; have HB := n2_; clear n0_ n1_ n2_; (try clear hb); (try clear hb2); (try clear hk); (try clear hi)) | ((with_reducible refine gate_dst (N := 9) rfl ?_); refine box_event ?hg (N := 9) ?hd (cs := #[.string (⟨#[]⟩ : ByteArray), .string (⟨#[]⟩ : ByteArray)]) (t := 33) ?hr ?_; (case hd => rfl); (case hg => rfl); (case hr => first | (go_simp; done) | (go_simp; rfl)); intro gb254 hg w38 hbox hb; have n0_ := Aside0.mk (blk_below (g := gb243) (o := .cells #[.string a0_0, .string a0_1] 33 (0, 0)) (by (with_reducible repeat (first | refine blk_drewN ?_ _ | refine blk_drew ?_ | refine blk_alloc ?_ _)); exact BK243.out) hb); have n1_ := Aside0.mk (blk_below (g := gb250) (o := .cells #[.string t247, .string t248] 33 (0, 0)) (by (with_reducible repeat (first | refine blk_drewN ?_ _ | refine blk_drew ?_ | refine blk_alloc ?_ _)); exact BK250.out) hb); have n2_ := Aside0.mk (below_step (by repeat (first | (with_reducible first | exact HB.out | apply below_alloc | apply pw_below_drewN | apply below_drew1 | refine below_set ?_ GE243.out | refine below_set ?_ GE250.out) | exact HB.out)) hb); have n3_ := Aside0.mk (hbox); have n4_ := Aside0.mk ((by rw [hg]; exact (below_size (by repeat (first | (with_reducible first | exact HB.out | apply below_alloc | apply pw_below_drewN | apply below_drew1 | refine below_set ?_ GE243.out | refine below_set ?_ GE250.out) | exact HB.out))) : w.heap.size ≤ gb254)); have n5_ := Aside0.mk ((by rw [hg]; exact (below_size (by repeat (first | (with_reducible first | exact HB.out | apply below_alloc | apply pw_below_drewN | apply below_drew1 | refine below_set ?_ GE243.out | refine below_set ?_ GE250.out) | exact HB.out))) : w.heap.size ≤ gb254)); have n6_ := Aside0.mk ((by rw [hg]; exact Nat.ne_of_lt (blk_lt (g := gb243) (o := .cells #[.string a0_0, .string a0_1] 33 (0, 0)) (by (with_reducible repeat (first | refine blk_drewN ?_ _ | refine blk_drew ?_ | refine blk_alloc ?_ _)); exact BK243.out)) : gb243 ≠ gb254)); have n7_ := Aside0.mk ((by rw [hg]; exact Nat.ne_of_gt (blk_lt (g := gb243) (o := .cells #[.string a0_0, .string a0_1] 33 (0, 0)) (by (with_reducible repeat (first | refine blk_drewN ?_ _ | refine blk_drew ?_ | refine blk_alloc ?_ _)); exact BK243.out)) : gb254 ≠ gb243)); have n8_ := Aside0.mk ((by rw [hg]; exact Nat.ne_of_lt (blk_lt (g := gb250) (o := .cells #[.string t247, .string t248] 33 (0, 0)) (by (with_reducible repeat (first | refine blk_drewN ?_ _ | refine blk_drew ?_ | refine blk_alloc ?_ _)); exact BK250.out)) : gb250 ≠ gb254)); have n9_ := Aside0.mk ((by rw [hg]; exact Nat.ne_of_gt (blk_lt (g := gb250) (o := .cells #[.string t247, .string t248] 33 (0, 0)) (by (with_reducible repeat (first | refine blk_drewN ?_ _ | refine blk_drew ?_ | refine blk_alloc ?_ _)); exact BK250.out)) : gb254 ≠ gb250)); clear BK243; clear BK250; clear HB; have BK243 := n0_; have BK250 := n1_; have HB := n2_; have BK254 := n3_; have GW254 := n4_; have GE254 := n5_; have NB243_254 := n6_; have NB254_243 := n7_; have NB250_254 := n8_; have NB254_250 := n9_; clear n0_ n1_ n2_ n3_ n4_ n5_ n6_ n7_ n8_ n9_; clear hb hbox hg; have hnb39 := NB254_243.out; have hnc39 := NB243_254.out; have hnb40 := NB254_250.out; have hnc40 := NB250_254.out; have hcz41_0 : w38.cell? ⟨gb254, 0, none⟩ = some (.string (⟨#[]⟩ : ByteArray)) := (blk_cell BK254.out 0).trans rfl; have hcz41_1 : w38.cell? ⟨gb254, 1, none⟩ = some (.string (⟨#[]⟩ : ByteArray)) := (blk_cell BK254.out 1).trans rfl; have hfz41_0 := blk_frozen BK254.out 0; have hfz41_1 := blk_frozen BK254.out 1; have hcz42_0 : w38.cell? ⟨gb250, 0, none⟩ = some (.string t247) := (blk_cell BK250.out 0).trans rfl; have hcz42_1 : w38.cell? ⟨gb250, 1, none⟩ = some (.string t248) := (blk_cell BK250.out 1).trans rfl; have hfz42_0 := blk_frozen BK250.out 0; have hfz42_1 := blk_frozen BK250.out 1))
          go_ret
          exact ⟨by first | rfl | (simp [errW_none, errW_some] <;> rfl) | (simp [*, errW_none, errW_some] <;> rfl), by repeat (first | (with_reducible first | exact HB.out | apply below_alloc | apply pw_below_drewN | apply below_drew1 | refine below_set ?_ GE243.out | refine below_set ?_ GE250.out | refine below_set ?_ GE254.out) | exact HB.out)⟩

end Go.Proofs.Ytoepdplglablcaa.J
