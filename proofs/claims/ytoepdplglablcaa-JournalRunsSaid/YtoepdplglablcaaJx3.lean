-- Written by wip/oprint (this session's own program): the machine's side of a proof. Not trusted: Lean checks it.
import Derived.Test.YtoepdplglablcaaJx0
import Derived.Test.YtoepdplglablcaaJx2
namespace Go.Proofs.Ytoepdplglablcaa.J
open Go.RowKit Go.Proofs.YtoepdplglablcaaW.PrintWords Go.Proofs.YtoepdplglablcaaW.PrintLast Go.Proofs.YtoepdplglablcaaW.PrintMore
attribute [local go_sem] max2_int min2_int max_two min_two max_three min_three max_four min_four   -- for this text's walks alone
set_option linter.unusedVariables false
set_option linter.unusedSimpArgs false

/-! ### bytes of a string in a row of their own, one bit turned -/
section
variable {P : Program} {ops : Array Oper} {rest : List Oper} {o : Oper} {a : Act} {Q : Exit → Act → World → Prop}
theorem conv_event {W : World} (hgd : o.guard = none) {N : Tmp} (_hd : o.dst = some N) {e : TypeId} {s : ByteArray}
    (hrun : (execOp a.eval o).run P W = .ok (.value (.slice (some ⟨W.heap.size, 0, none⟩) s.size (grownCap W s.size 0 e))) (Lib.bytesWorld W e s))
    (h : ∀ g, g = W.heap.size → ∀ cap, s.size ≤ cap → ∀ w1, (∀ j, j < s.size → w1.cell? ⟨g, j, none⟩ = some (.int .u8 (rd (bytesOf s) j))) → (∀ j, j < s.size → w1.frozen? ⟨g, j, none⟩ = false) → Below W.heap.size W w1 → g < w1.heap.size →
      wpList P ops Q rest (a.put o.dst (.slice (some ⟨g, 0, none⟩) s.size cap)) w1) : wpList P ops Q (o :: rest) a W := by
  refine Kd.event_run hgd hrun (h _ rfl _ (grownCap_ge _ _ _ _) _ (fun j hj => ?_) (fun j hj => ?_) (bytes_below (Below.refl _ _) (Nat.le_refl _) e s) (by rw [Lib.bytesWorld_size]; omega))
  · rw [Lib.bytesWorld_cell W e s j hj]
    simp [rd, bytesOf, List.getD_eq_getElem?_getD, hj, data_length]
  · simp [World.frozen?, Lib.bytesWorld_at_new, Lib.bytesCells]
    omega
end
theorem bytes_set {w1 : World} {g n : Nat} {xs : List Int} (hx : xs.length = n) (hn : n ≤ 9223372036854775807) (hc : ∀ j, j < n → w1.cell? ⟨g, j, none⟩ = some (.int .u8 (rd xs j))) (i : Nat) (v : Int) :
    ReadsInt (w1.setCell ⟨g, i, none⟩ (.int .u8 v)).drew .u8 (some ⟨g, 0, none⟩) n (xs.set i v) := by
  refine ⟨by rw [List.length_set, hx], hn, fun _ => ⟨_, rfl, fun j hj => ?_⟩⟩
  rw [add_plain]
  show (w1.setCell ⟨g, i, none⟩ (.int .u8 v)).cell? ⟨g, j, none⟩ = _
  by_cases h : i = j
  · subst h
    rw [World.cell?_setCell_same _ _ _ (hc i hj), List.getD_eq_getElem?_getD, List.getElem?_set, if_pos rfl, if_pos (by omega)]
    rfl
  · rw [World.cell?_setCell_other _ _ _ _ (by simp [h]), hc j hj, List.getD_eq_getElem?_getD, List.getElem?_set, if_neg h]
    simp [rd, List.getD_eq_getElem?_getD]
theorem bytes_back {P : Program} {w1 : World} {src dst e : TypeId} {g n c : Nat} {xs : List Int} (hs : P.underlying src = some (.slice e)) (he : P.underlying e = some (.int .u8)) (hd : P.underlying dst = some .string)
    (hx : xs.length = n) (hn : n ≤ 9223372036854775807) (hc : ∀ j, j < n → w1.cell? ⟨g, j, none⟩ = some (.int .u8 (rd xs j))) (i : Nat) (v : Int) :
    (convert src dst (.slice (some ⟨g, 0, none⟩) n c)).run P (w1.setCell ⟨g, i, none⟩ (.int .u8 v)).drew = .ok (.string (strOfNums (xs.set i v))) (w1.setCell ⟨g, i, none⟩ (.int .u8 v)).drew :=
  string_of_reads hs he hd (bytes_set hx hn hc i v)
theorem bytes_same {P : Program} {w1 : World} {src dst e : TypeId} {g n c : Nat} {xs : List Int} (hs : P.underlying src = some (.slice e)) (he : P.underlying e = some (.int .u8)) (hd : P.underlying dst = some .string)
    (hx : xs.length = n) (hn : n ≤ 9223372036854775807) (hc : ∀ j, j < n → w1.cell? ⟨g, j, none⟩ = some (.int .u8 (rd xs j))) :
    (convert src dst (.slice (some ⟨g, 0, none⟩) n c)).run P w1 = .ok (.string (strOfNums xs)) w1 := by
  refine string_of_reads hs he hd ⟨hx, hn, fun _ => ⟨_, rfl, fun j hj => ?_⟩⟩
  rw [add_plain]
  exact hc j hj
theorem strOf_bytesOf (s : ByteArray) : strOfNums (bytesOf s) = s := by
  unfold strOfNums bytesOf
  rw [List.map_map]
  have : ((fun n : Int => UInt8.ofNat n.toNat) ∘ fun b : UInt8 => (b.toNat : Int)) = id := by funext b; simp
  rw [this, List.map_id]

def turnBit (s : ByteArray) (b : Int) : ByteArray := strOfNums ((bytesOf s).set (b / 8).toNat (Go.bits .xor .u8 (rd (bytesOf s) (b / 8)) ((2 ^ (b % 8).toNat) % 256)))


/-! ### journal_Crash: function 27 -/
def journal_Crash.f (a0_0 : ByteArray) (a0_1 : ByteArray) (a1 : Int) (a2 : Int) : Option (ByteArray × ByteArray × Int) :=
  if a0_0.size ≤ 140737488351232 ∧ a0_1.size ≤ 140737488351232 ∧ a2 ≤ 9223372036854775807 then
    (if a1 < 0 ∨ a1 > (a0_1.size : Int) ∨ a2 < -1 ∨ a2 ≥ 8 * a1 then some ((⟨#[]⟩ : ByteArray), (⟨#[]⟩ : ByteArray), 6)
     else if 0 ≤ a2 then some (a0_0 ++ turnBit (a0_1.extract 0 a1.toNat) a2, (⟨#[]⟩ : ByteArray), 0) else some (a0_0 ++ a0_1.extract 0 a1.toNat, (⟨#[]⟩ : ByteArray), 0))
  else none
theorem turnBit_size (s : ByteArray) (b : Int) : (turnBit s b).size = s.size := by rw [turnBit, strOfNums_size, List.length_set, bytesOf_length]
set_option maxHeartbeats 8000000 in
set_option maxRecDepth 100000 in
theorem journal_Crash.calls (a0_0 : ByteArray) (a0_1 : ByteArray) (a1 : Int) (a2 : Int) (r1 : ByteArray) (r2 : ByteArray) (r3 : Int) (w : World) (h : journal_Crash.f a0_0 a0_1 a1 a2 = some (r1, r2, r3)) :
    Calls Try.prog 27 #[.agg #[.string a0_0, .string a0_1], .int .i64 a1, .int .i64 a2] w fun e w' => e = .returned (.tuple #[.agg #[.string r1, .string r2], .int .i64 r3]) ∧ Below w.heap.size w w' := by
  have hu33 := Try.underlying33
  have HB := Aside0.mk (Below.refl w.heap.size w)
  unfold journal_Crash.f at h
  by_cases h0 : a0_0.size ≤ 140737488351232 ∧ a0_1.size ≤ 140737488351232 ∧ a2 ≤ 9223372036854775807
  · rw [if_pos h0] at h
    obtain ⟨hs0, hs1, ha2⟩ := h0
    by_cases hbad : a1 < 0 ∨ a1 > (a0_1.size : Int) ∨ a2 < -1 ∨ a2 ≥ 8 * a1
    · rw [if_pos hbad] at h
      simp only [Option.some.injEq, Prod.mk.injEq] at h
      obtain ⟨rfl, rfl, rfl⟩ := h
      by_cases k1 : a1 < 0
      · clear hbad
        go_enter Try.func27, Try.ntmps27
        go_upto_region 1 with (first | ((with_reducible refine gate_dst (N := 3) rfl ?_); refine box_event ?hg (N := 3) ?hd (cs := #[.string a0_0, .string a0_1]) (t := 33) ?hr ?_; (case hd => rfl); (case hg => rfl); (case hr => first | (go_simp; done) | (go_simp; rfl)); intro gb3 hg w5 hbox hb; have n0_ := Aside0.mk (below_step (by repeat (first | (with_reducible first | exact HB.out | apply below_alloc | apply pw_below_drewN | apply below_drew1) | exact HB.out)) hb); have n1_ := Aside0.mk hbox; have n3_ := Aside0.mk ((by rw [hg]; exact (below_size (by repeat (first | (with_reducible first | exact HB.out | apply below_alloc | apply pw_below_drewN | apply below_drew1) | exact HB.out)))) : w.heap.size ≤ gb3); clear HB; have HB := n0_; have BK3 := n1_; have GE3 := n3_; clear n0_ n1_ n3_; clear hb hbox hg) | ((with_reducible refine gate_dst (N := 6) rfl ?_); refine box_event ?hg (N := 6) ?hd (cs := #[.string (⟨#[]⟩ : ByteArray), .string (⟨#[]⟩ : ByteArray)]) (t := 33) ?hr ?_; (case hd => rfl); (case hg => rfl); (case hr => first | (go_simp; done) | (go_simp; rfl)); intro gb6 hg w6 hbox hb; have n0_ := Aside0.mk (blk_below (g := gb3) (o := .cells #[.string a0_0, .string a0_1] 33 (0, 0)) (by (with_reducible repeat (first | refine blk_drewN ?_ _ | refine blk_drew ?_ | refine blk_alloc ?_ _)); exact BK3.out) hb); have n1_ := Aside0.mk (below_step (by repeat (first | (with_reducible first | exact HB.out | apply below_alloc | apply pw_below_drewN | apply below_drew1) | exact HB.out)) hb); have n2_ := Aside0.mk hbox; have n4_ := Aside0.mk ((by rw [hg]; exact (below_size (by repeat (first | (with_reducible first | exact HB.out | apply below_alloc | apply pw_below_drewN | apply below_drew1) | exact HB.out)))) : w.heap.size ≤ gb6); have n5_ := Aside0.mk ((by rw [hg]; exact Nat.ne_of_lt (blk_lt (g := gb3) (o := .cells #[.string a0_0, .string a0_1] 33 (0, 0)) (by (with_reducible repeat (first | refine blk_drewN ?_ _ | refine blk_drew ?_ | refine blk_alloc ?_ _)); exact BK3.out))) : gb3 ≠ gb6); have n6_ := Aside0.mk (fun e => n5_.out e.symm : gb6 ≠ gb3); clear BK3; clear HB; have BK3 := n0_; have HB := n1_; have BK6 := n2_; have GE6 := n4_; have NB36 := n5_; have NB63 := n6_; clear n0_ n1_ n2_ n4_ n5_ n6_; clear hb hbox hg))
        have hnb := NB36.out; have hnc := NB63.out; have hc30 : w6.cell? ⟨gb3, 0, none⟩ = some (.string a0_0) := (blk_cell BK3.out 0).trans rfl; have hc31 : w6.cell? ⟨gb3, 1, none⟩ = some (.string a0_1) := (blk_cell BK3.out 1).trans rfl; have hc60 : w6.cell? ⟨gb6, 0, none⟩ = some (.string (⟨#[]⟩ : ByteArray)) := (blk_cell BK6.out 0).trans rfl; have hc61 : w6.cell? ⟨gb6, 1, none⟩ = some (.string (⟨#[]⟩ : ByteArray)) := (blk_cell BK6.out 1).trans rfl; have hf60 := blk_frozen BK6.out 0; have hf61 := blk_frozen BK6.out 1
        have d1 : decide (a1 < 0) = true := decide_eq_true k1
        clear k1
        go_wp2
        refine bodyPost_ret (results_ct rfl _ _ gb6 33 #[.string (⟨#[]⟩ : ByteArray), .string (⟨#[]⟩ : ByteArray)] (0, 0) _ rfl (by (with_reducible repeat (first | refine blk_drewN ?_ _ | refine blk_drew ?_ | refine blk_alloc ?_ _)); refine blk_put (cs := #[.string (⟨#[]⟩ : ByteArray), .string (⟨#[]⟩ : ByteArray)]) ?_ 1 _ rfl; (with_reducible repeat (first | refine blk_drewN ?_ _ | refine blk_drew ?_ | refine blk_alloc ?_ _)); refine blk_put (cs := #[.string (⟨#[]⟩ : ByteArray), .string (⟨#[]⟩ : ByteArray)]) ?_ 0 _ rfl; (with_reducible repeat (first | refine blk_drewN ?_ _ | refine blk_drew ?_ | refine blk_alloc ?_ _)); exact BK6.out) Try.underlying33 rfl (by kernel_rfl)) rfl ?_
        exact ⟨rfl, (by repeat (first | (with_reducible first | exact HB.out | apply below_alloc | apply pw_below_drewN | apply below_drew1 | refine below_set ?_ GE3.out | refine below_set ?_ GE6.out) | exact HB.out))⟩
      · by_cases k2 : a1 > (a0_1.size : Int)
        · clear hbad
          go_enter Try.func27, Try.ntmps27
          go_upto_region 1 with (first | ((with_reducible refine gate_dst (N := 3) rfl ?_); refine box_event ?hg (N := 3) ?hd (cs := #[.string a0_0, .string a0_1]) (t := 33) ?hr ?_; (case hd => rfl); (case hg => rfl); (case hr => first | (go_simp; done) | (go_simp; rfl)); intro gb3 hg w5 hbox hb; have n0_ := Aside0.mk (below_step (by repeat (first | (with_reducible first | exact HB.out | apply below_alloc | apply pw_below_drewN | apply below_drew1) | exact HB.out)) hb); have n1_ := Aside0.mk hbox; have n3_ := Aside0.mk ((by rw [hg]; exact (below_size (by repeat (first | (with_reducible first | exact HB.out | apply below_alloc | apply pw_below_drewN | apply below_drew1) | exact HB.out)))) : w.heap.size ≤ gb3); clear HB; have HB := n0_; have BK3 := n1_; have GE3 := n3_; clear n0_ n1_ n3_; clear hb hbox hg) | ((with_reducible refine gate_dst (N := 6) rfl ?_); refine box_event ?hg (N := 6) ?hd (cs := #[.string (⟨#[]⟩ : ByteArray), .string (⟨#[]⟩ : ByteArray)]) (t := 33) ?hr ?_; (case hd => rfl); (case hg => rfl); (case hr => first | (go_simp; done) | (go_simp; rfl)); intro gb6 hg w6 hbox hb; have n0_ := Aside0.mk (blk_below (g := gb3) (o := .cells #[.string a0_0, .string a0_1] 33 (0, 0)) (by (with_reducible repeat (first | refine blk_drewN ?_ _ | refine blk_drew ?_ | refine blk_alloc ?_ _)); exact BK3.out) hb); have n1_ := Aside0.mk (below_step (by repeat (first | (with_reducible first | exact HB.out | apply below_alloc | apply pw_below_drewN | apply below_drew1) | exact HB.out)) hb); have n2_ := Aside0.mk hbox; have n4_ := Aside0.mk ((by rw [hg]; exact (below_size (by repeat (first | (with_reducible first | exact HB.out | apply below_alloc | apply pw_below_drewN | apply below_drew1) | exact HB.out)))) : w.heap.size ≤ gb6); have n5_ := Aside0.mk ((by rw [hg]; exact Nat.ne_of_lt (blk_lt (g := gb3) (o := .cells #[.string a0_0, .string a0_1] 33 (0, 0)) (by (with_reducible repeat (first | refine blk_drewN ?_ _ | refine blk_drew ?_ | refine blk_alloc ?_ _)); exact BK3.out))) : gb3 ≠ gb6); have n6_ := Aside0.mk (fun e => n5_.out e.symm : gb6 ≠ gb3); clear BK3; clear HB; have BK3 := n0_; have HB := n1_; have BK6 := n2_; have GE6 := n4_; have NB36 := n5_; have NB63 := n6_; clear n0_ n1_ n2_ n4_ n5_ n6_; clear hb hbox hg))
          have hnb := NB36.out; have hnc := NB63.out; have hc30 : w6.cell? ⟨gb3, 0, none⟩ = some (.string a0_0) := (blk_cell BK3.out 0).trans rfl; have hc31 : w6.cell? ⟨gb3, 1, none⟩ = some (.string a0_1) := (blk_cell BK3.out 1).trans rfl; have hc60 : w6.cell? ⟨gb6, 0, none⟩ = some (.string (⟨#[]⟩ : ByteArray)) := (blk_cell BK6.out 0).trans rfl; have hc61 : w6.cell? ⟨gb6, 1, none⟩ = some (.string (⟨#[]⟩ : ByteArray)) := (blk_cell BK6.out 1).trans rfl; have hf60 := blk_frozen BK6.out 0; have hf61 := blk_frozen BK6.out 1
          have d1 : decide (a1 < 0) = false := decide_eq_false k1
          have d2 : decide ((a0_1.size : Int) < a1) = true := decide_eq_true k2
          clear k1 k2
          go_wp2
          refine bodyPost_ret (results_ct rfl _ _ gb6 33 #[.string (⟨#[]⟩ : ByteArray), .string (⟨#[]⟩ : ByteArray)] (0, 0) _ rfl (by (with_reducible repeat (first | refine blk_drewN ?_ _ | refine blk_drew ?_ | refine blk_alloc ?_ _)); refine blk_put (cs := #[.string (⟨#[]⟩ : ByteArray), .string (⟨#[]⟩ : ByteArray)]) ?_ 1 _ rfl; (with_reducible repeat (first | refine blk_drewN ?_ _ | refine blk_drew ?_ | refine blk_alloc ?_ _)); refine blk_put (cs := #[.string (⟨#[]⟩ : ByteArray), .string (⟨#[]⟩ : ByteArray)]) ?_ 0 _ rfl; (with_reducible repeat (first | refine blk_drewN ?_ _ | refine blk_drew ?_ | refine blk_alloc ?_ _)); exact BK6.out) Try.underlying33 rfl (by kernel_rfl)) rfl ?_
          exact ⟨rfl, (by repeat (first | (with_reducible first | exact HB.out | apply below_alloc | apply pw_below_drewN | apply below_drew1 | refine below_set ?_ GE3.out | refine below_set ?_ GE6.out) | exact HB.out))⟩
        · by_cases k3 : a2 < -1
          · clear hbad
            go_enter Try.func27, Try.ntmps27
            go_upto_region 1 with (first | ((with_reducible refine gate_dst (N := 3) rfl ?_); refine box_event ?hg (N := 3) ?hd (cs := #[.string a0_0, .string a0_1]) (t := 33) ?hr ?_; (case hd => rfl); (case hg => rfl); (case hr => first | (go_simp; done) | (go_simp; rfl)); intro gb3 hg w5 hbox hb; have n0_ := Aside0.mk (below_step (by repeat (first | (with_reducible first | exact HB.out | apply below_alloc | apply pw_below_drewN | apply below_drew1) | exact HB.out)) hb); have n1_ := Aside0.mk hbox; have n3_ := Aside0.mk ((by rw [hg]; exact (below_size (by repeat (first | (with_reducible first | exact HB.out | apply below_alloc | apply pw_below_drewN | apply below_drew1) | exact HB.out)))) : w.heap.size ≤ gb3); clear HB; have HB := n0_; have BK3 := n1_; have GE3 := n3_; clear n0_ n1_ n3_; clear hb hbox hg) | ((with_reducible refine gate_dst (N := 6) rfl ?_); refine box_event ?hg (N := 6) ?hd (cs := #[.string (⟨#[]⟩ : ByteArray), .string (⟨#[]⟩ : ByteArray)]) (t := 33) ?hr ?_; (case hd => rfl); (case hg => rfl); (case hr => first | (go_simp; done) | (go_simp; rfl)); intro gb6 hg w6 hbox hb; have n0_ := Aside0.mk (blk_below (g := gb3) (o := .cells #[.string a0_0, .string a0_1] 33 (0, 0)) (by (with_reducible repeat (first | refine blk_drewN ?_ _ | refine blk_drew ?_ | refine blk_alloc ?_ _)); exact BK3.out) hb); have n1_ := Aside0.mk (below_step (by repeat (first | (with_reducible first | exact HB.out | apply below_alloc | apply pw_below_drewN | apply below_drew1) | exact HB.out)) hb); have n2_ := Aside0.mk hbox; have n4_ := Aside0.mk ((by rw [hg]; exact (below_size (by repeat (first | (with_reducible first | exact HB.out | apply below_alloc | apply pw_below_drewN | apply below_drew1) | exact HB.out)))) : w.heap.size ≤ gb6); have n5_ := Aside0.mk ((by rw [hg]; exact Nat.ne_of_lt (blk_lt (g := gb3) (o := .cells #[.string a0_0, .string a0_1] 33 (0, 0)) (by (with_reducible repeat (first | refine blk_drewN ?_ _ | refine blk_drew ?_ | refine blk_alloc ?_ _)); exact BK3.out))) : gb3 ≠ gb6); have n6_ := Aside0.mk (fun e => n5_.out e.symm : gb6 ≠ gb3); clear BK3; clear HB; have BK3 := n0_; have HB := n1_; have BK6 := n2_; have GE6 := n4_; have NB36 := n5_; have NB63 := n6_; clear n0_ n1_ n2_ n4_ n5_ n6_; clear hb hbox hg))
            have hnb := NB36.out; have hnc := NB63.out; have hc30 : w6.cell? ⟨gb3, 0, none⟩ = some (.string a0_0) := (blk_cell BK3.out 0).trans rfl; have hc31 : w6.cell? ⟨gb3, 1, none⟩ = some (.string a0_1) := (blk_cell BK3.out 1).trans rfl; have hc60 : w6.cell? ⟨gb6, 0, none⟩ = some (.string (⟨#[]⟩ : ByteArray)) := (blk_cell BK6.out 0).trans rfl; have hc61 : w6.cell? ⟨gb6, 1, none⟩ = some (.string (⟨#[]⟩ : ByteArray)) := (blk_cell BK6.out 1).trans rfl; have hf60 := blk_frozen BK6.out 0; have hf61 := blk_frozen BK6.out 1
            have d1 : decide (a1 < 0) = false := decide_eq_false k1
            have d2 : decide ((a0_1.size : Int) < a1) = false := decide_eq_false k2
            have d3 : decide (a2 < -1) = true := decide_eq_true k3
            clear k1 k2 k3
            go_wp2
            refine bodyPost_ret (results_ct rfl _ _ gb6 33 #[.string (⟨#[]⟩ : ByteArray), .string (⟨#[]⟩ : ByteArray)] (0, 0) _ rfl (by (with_reducible repeat (first | refine blk_drewN ?_ _ | refine blk_drew ?_ | refine blk_alloc ?_ _)); refine blk_put (cs := #[.string (⟨#[]⟩ : ByteArray), .string (⟨#[]⟩ : ByteArray)]) ?_ 1 _ rfl; (with_reducible repeat (first | refine blk_drewN ?_ _ | refine blk_drew ?_ | refine blk_alloc ?_ _)); refine blk_put (cs := #[.string (⟨#[]⟩ : ByteArray), .string (⟨#[]⟩ : ByteArray)]) ?_ 0 _ rfl; (with_reducible repeat (first | refine blk_drewN ?_ _ | refine blk_drew ?_ | refine blk_alloc ?_ _)); exact BK6.out) Try.underlying33 rfl (by kernel_rfl)) rfl ?_
            exact ⟨rfl, (by repeat (first | (with_reducible first | exact HB.out | apply below_alloc | apply pw_below_drewN | apply below_drew1 | refine below_set ?_ GE3.out | refine below_set ?_ GE6.out) | exact HB.out))⟩
          · have k4 : 8 * a1 ≤ a2 := by omega
            clear hbad
            go_enter Try.func27, Try.ntmps27
            go_upto_region 1 with (first | ((with_reducible refine gate_dst (N := 3) rfl ?_); refine box_event ?hg (N := 3) ?hd (cs := #[.string a0_0, .string a0_1]) (t := 33) ?hr ?_; (case hd => rfl); (case hg => rfl); (case hr => first | (go_simp; done) | (go_simp; rfl)); intro gb3 hg w5 hbox hb; have n0_ := Aside0.mk (below_step (by repeat (first | (with_reducible first | exact HB.out | apply below_alloc | apply pw_below_drewN | apply below_drew1) | exact HB.out)) hb); have n1_ := Aside0.mk hbox; have n3_ := Aside0.mk ((by rw [hg]; exact (below_size (by repeat (first | (with_reducible first | exact HB.out | apply below_alloc | apply pw_below_drewN | apply below_drew1) | exact HB.out)))) : w.heap.size ≤ gb3); clear HB; have HB := n0_; have BK3 := n1_; have GE3 := n3_; clear n0_ n1_ n3_; clear hb hbox hg) | ((with_reducible refine gate_dst (N := 6) rfl ?_); refine box_event ?hg (N := 6) ?hd (cs := #[.string (⟨#[]⟩ : ByteArray), .string (⟨#[]⟩ : ByteArray)]) (t := 33) ?hr ?_; (case hd => rfl); (case hg => rfl); (case hr => first | (go_simp; done) | (go_simp; rfl)); intro gb6 hg w6 hbox hb; have n0_ := Aside0.mk (blk_below (g := gb3) (o := .cells #[.string a0_0, .string a0_1] 33 (0, 0)) (by (with_reducible repeat (first | refine blk_drewN ?_ _ | refine blk_drew ?_ | refine blk_alloc ?_ _)); exact BK3.out) hb); have n1_ := Aside0.mk (below_step (by repeat (first | (with_reducible first | exact HB.out | apply below_alloc | apply pw_below_drewN | apply below_drew1) | exact HB.out)) hb); have n2_ := Aside0.mk hbox; have n4_ := Aside0.mk ((by rw [hg]; exact (below_size (by repeat (first | (with_reducible first | exact HB.out | apply below_alloc | apply pw_below_drewN | apply below_drew1) | exact HB.out)))) : w.heap.size ≤ gb6); have n5_ := Aside0.mk ((by rw [hg]; exact Nat.ne_of_lt (blk_lt (g := gb3) (o := .cells #[.string a0_0, .string a0_1] 33 (0, 0)) (by (with_reducible repeat (first | refine blk_drewN ?_ _ | refine blk_drew ?_ | refine blk_alloc ?_ _)); exact BK3.out))) : gb3 ≠ gb6); have n6_ := Aside0.mk (fun e => n5_.out e.symm : gb6 ≠ gb3); clear BK3; clear HB; have BK3 := n0_; have HB := n1_; have BK6 := n2_; have GE6 := n4_; have NB36 := n5_; have NB63 := n6_; clear n0_ n1_ n2_ n4_ n5_ n6_; clear hb hbox hg))
            have hnb := NB36.out; have hnc := NB63.out; have hc30 : w6.cell? ⟨gb3, 0, none⟩ = some (.string a0_0) := (blk_cell BK3.out 0).trans rfl; have hc31 : w6.cell? ⟨gb3, 1, none⟩ = some (.string a0_1) := (blk_cell BK3.out 1).trans rfl; have hc60 : w6.cell? ⟨gb6, 0, none⟩ = some (.string (⟨#[]⟩ : ByteArray)) := (blk_cell BK6.out 0).trans rfl; have hc61 : w6.cell? ⟨gb6, 1, none⟩ = some (.string (⟨#[]⟩ : ByteArray)) := (blk_cell BK6.out 1).trans rfl; have hf60 := blk_frozen BK6.out 0; have hf61 := blk_frozen BK6.out 1
            have d1 : decide (a1 < 0) = false := decide_eq_false k1
            have d2 : decide ((a0_1.size : Int) < a1) = false := decide_eq_false k2
            have d3 : decide (a2 < -1) = false := decide_eq_false k3
            have d4 : decide (8 * a1 ≤ a2) = true := decide_eq_true k4
            have b1 : 0 ≤ a1 := by omega
            have b2 : a1 ≤ 140737488351232 := by omega
            clear k1 k2 k3
            go_wp2
            refine bodyPost_ret (results_ct rfl _ _ gb6 33 #[.string (⟨#[]⟩ : ByteArray), .string (⟨#[]⟩ : ByteArray)] (0, 0) _ rfl (by (with_reducible repeat (first | refine blk_drewN ?_ _ | refine blk_drew ?_ | refine blk_alloc ?_ _)); refine blk_put (cs := #[.string (⟨#[]⟩ : ByteArray), .string (⟨#[]⟩ : ByteArray)]) ?_ 1 _ rfl; (with_reducible repeat (first | refine blk_drewN ?_ _ | refine blk_drew ?_ | refine blk_alloc ?_ _)); refine blk_put (cs := #[.string (⟨#[]⟩ : ByteArray), .string (⟨#[]⟩ : ByteArray)]) ?_ 0 _ rfl; (with_reducible repeat (first | refine blk_drewN ?_ _ | refine blk_drew ?_ | refine blk_alloc ?_ _)); exact BK6.out) Try.underlying33 rfl (by kernel_rfl)) rfl ?_
            exact ⟨rfl, (by repeat (first | (with_reducible first | exact HB.out | apply below_alloc | apply pw_below_drewN | apply below_drew1 | refine below_set ?_ GE3.out | refine below_set ?_ GE6.out) | exact HB.out))⟩
    · rw [if_neg hbad] at h
      have k1 : ¬ a1 < 0 := fun h => hbad (.inl h)
      have k2 : ¬ a1 > (a0_1.size : Int) := fun h => hbad (.inr (.inl h))
      have k3 : ¬ a2 < -1 := fun h => hbad (.inr (.inr (.inl h)))
      have k4 : ¬ 8 * a1 ≤ a2 := fun h => hbad (.inr (.inr (.inr h)))
      clear hbad
      have hes : (a0_1.extract 0 a1.toNat).size = a1.toNat := by rw [ByteArray.size_extract]; omega
      by_cases k5 : 0 ≤ a2
      · rw [if_pos k5] at h
        simp only [Option.some.injEq, Prod.mk.injEq] at h
        obtain ⟨rfl, rfl, rfl⟩ := h
        have kc := fun (w : World) => Lib.run_convert_string_bytes (P := Try.prog) w 9 56 5 (a0_1.extract 0 a1.toNat) Try.underlying9 Try.underlying56 Try.underlying5
        go_enter Try.func27, Try.ntmps27
        go_upto_region 1 with (first | ((with_reducible refine gate_dst (N := 3) rfl ?_); refine box_event ?hg (N := 3) ?hd (cs := #[.string a0_0, .string a0_1]) (t := 33) ?hr ?_; (case hd => rfl); (case hg => rfl); (case hr => first | (go_simp; done) | (go_simp; rfl)); intro gb3 hg w5 hbox hb; have n0_ := Aside0.mk (below_step (by repeat (first | (with_reducible first | exact HB.out | apply below_alloc | apply pw_below_drewN | apply below_drew1) | exact HB.out)) hb); have n1_ := Aside0.mk hbox; have n3_ := Aside0.mk ((by rw [hg]; exact (below_size (by repeat (first | (with_reducible first | exact HB.out | apply below_alloc | apply pw_below_drewN | apply below_drew1) | exact HB.out)))) : w.heap.size ≤ gb3); clear HB; have HB := n0_; have BK3 := n1_; have GE3 := n3_; clear n0_ n1_ n3_; clear hb hbox hg) | ((with_reducible refine gate_dst (N := 6) rfl ?_); refine box_event ?hg (N := 6) ?hd (cs := #[.string (⟨#[]⟩ : ByteArray), .string (⟨#[]⟩ : ByteArray)]) (t := 33) ?hr ?_; (case hd => rfl); (case hg => rfl); (case hr => first | (go_simp; done) | (go_simp; rfl)); intro gb6 hg w6 hbox hb; have n0_ := Aside0.mk (blk_below (g := gb3) (o := .cells #[.string a0_0, .string a0_1] 33 (0, 0)) (by (with_reducible repeat (first | refine blk_drewN ?_ _ | refine blk_drew ?_ | refine blk_alloc ?_ _)); exact BK3.out) hb); have n1_ := Aside0.mk (below_step (by repeat (first | (with_reducible first | exact HB.out | apply below_alloc | apply pw_below_drewN | apply below_drew1) | exact HB.out)) hb); have n2_ := Aside0.mk hbox; have n4_ := Aside0.mk ((by rw [hg]; exact (below_size (by repeat (first | (with_reducible first | exact HB.out | apply below_alloc | apply pw_below_drewN | apply below_drew1) | exact HB.out)))) : w.heap.size ≤ gb6); have n5_ := Aside0.mk ((by rw [hg]; exact Nat.ne_of_lt (blk_lt (g := gb3) (o := .cells #[.string a0_0, .string a0_1] 33 (0, 0)) (by (with_reducible repeat (first | refine blk_drewN ?_ _ | refine blk_drew ?_ | refine blk_alloc ?_ _)); exact BK3.out))) : gb3 ≠ gb6); have n6_ := Aside0.mk (fun e => n5_.out e.symm : gb6 ≠ gb3); clear BK3; clear HB; have BK3 := n0_; have HB := n1_; have BK6 := n2_; have GE6 := n4_; have NB36 := n5_; have NB63 := n6_; clear n0_ n1_ n2_ n4_ n5_ n6_; clear hb hbox hg))
        have hnb := NB36.out; have hnc := NB63.out; have hc30 : w6.cell? ⟨gb3, 0, none⟩ = some (.string a0_0) := (blk_cell BK3.out 0).trans rfl; have hc31 : w6.cell? ⟨gb3, 1, none⟩ = some (.string a0_1) := (blk_cell BK3.out 1).trans rfl; have hc60 : w6.cell? ⟨gb6, 0, none⟩ = some (.string (⟨#[]⟩ : ByteArray)) := (blk_cell BK6.out 0).trans rfl; have hc61 : w6.cell? ⟨gb6, 1, none⟩ = some (.string (⟨#[]⟩ : ByteArray)) := (blk_cell BK6.out 1).trans rfl; have hf60 := blk_frozen BK6.out 0; have hf61 := blk_frozen BK6.out 1
        have d1 : decide (a1 < 0) = false := decide_eq_false k1
        have d2 : decide ((a0_1.size : Int) < a1) = false := decide_eq_false k2
        have d3 : decide (a2 < -1) = false := decide_eq_false k3
        have d4 : decide (8 * a1 ≤ a2) = false := decide_eq_false k4
        have d5 : decide (0 ≤ a2) = true := decide_eq_true k5
        have b1 : 0 ≤ a1 := by omega
        have b2 : a1 ≤ (a0_1.size : Int) := by omega
        have b3 : a1 ≤ 140737488351232 := by omega
        have HE := Aside0.mk hes
        clear hes
        go_wp2_with ((with_reducible refine gate_dst (N := 33) rfl ?_); refine conv_event ?hg (N := 33) ?hd (e := 5) (s := a0_1.extract 0 a1.toNat) ?hr ?_; (case hd => rfl); (case hg => rfl); (case hr => first | (go_simp; done) | (go_simp; rfl)); intro g hg cap hcap w1 hr1 hf1 hb1 hgl; have n0_ := Aside0.mk (blk_below BK3.out hb1); have n1_ := Aside0.mk (blk_below BK6.out hb1); have n2_ := Aside0.mk (below_step HB.out hb1); have n3_ := Aside0.mk ((by rw [hg]; exact HB.out.size) : w.heap.size ≤ g); have n4_ := Aside0.mk ((by rw [hg]; exact Nat.ne_of_lt (blk_lt BK3.out)) : gb3 ≠ g); have n5_ := Aside0.mk ((by rw [hg]; exact Nat.ne_of_lt (blk_lt BK6.out)) : gb6 ≠ g); clear hg BK3 BK6 HB hc30 hc31 hc60 hc61 hf60 hf61; have BK3 := n0_; have BK6 := n1_; have HB := n2_; have GE7 := n3_; have NB37 := n4_; have NB67 := n5_; clear n0_ n1_ n2_ n3_ n4_ n5_)
        have p1 : 0 ≤ a2 / 8 := by omega
        have hj : (a2 / 8).toNat < (a0_1.extract 0 a1.toNat).size := by rw [HE.out]; omega
        have hcell : w1.cell? ⟨g, (a2 / 8).toNat, none⟩ = some (.int .u8 (rd (bytesOf (a0_1.extract 0 a1.toNat)) (a2 / 8))) := by rw [hr1 _ hj, Int.toNat_of_nonneg p1]
        have hfree := hf1 (a2 / 8).toNat hj
        have p2 : 0 ≤ a2 % 8 := by omega
        have p3 : a2 % 8 < 8 := by omega
        have t1 : a2.tdiv 8 = a2 / 8 := Int.tdiv_eq_ediv_of_nonneg k5
        have t2 : a2.tmod 8 = a2 % 8 := Int.tmod_eq_emod_of_nonneg k5
        have e1 : IntKind.i64.wrap (a2.tdiv 8) = a2 / 8 := by rw [t1, IntKind.wrap_i64]; omega
        have e2 : IntKind.i64.wrap (a2.tmod 8) = a2 % 8 := by rw [t2, IntKind.wrap_i64]; omega
        have hlt : a2 / 8 < ((a0_1.extract 0 a1.toNat).size : Int) := by rw [HE.out]; omega
        clear t1 t2
        have hsz : (a0_1.extract 0 a1.toNat).size ≤ 9223372036854775807 := by rw [HE.out]; omega
        have HS : Aside0 (a0_0.size + (turnBit (a0_1.extract 0 a1.toNat) a2).size ≤ 9223372036854775807) := ⟨by rw [turnBit_size, HE.out]; omega⟩
        have hback := Aside0.mk (bytes_back (P := Try.prog) (c := cap) Try.underlying56 Try.underlying5 Try.underlying9 (bytesOf_length _) hsz hr1 (a2 / 8).toNat (Go.bits .xor .u8 (rd (bytesOf (a0_1.extract 0 a1.toNat)) (a2 / 8)) ((2 ^ (a2 % 8).toNat) % 256)))
        clear hr1 hf1 hsz
        go_region
        have n0_ := Aside0.mk (blk_drew (blk_far BK3.out NB37.out (p := ⟨g, (a2 / 8).toNat, none⟩) (.int .u8 (Go.bits .xor .u8 (rd (bytesOf (a0_1.extract 0 a1.toNat)) (a2 / 8)) ((2 ^ (a2 % 8).toNat) % 256)))))
        have n1_ := Aside0.mk (blk_drew (blk_far BK6.out NB67.out (p := ⟨g, (a2 / 8).toNat, none⟩) (.int .u8 (Go.bits .xor .u8 (rd (bytesOf (a0_1.extract 0 a1.toNat)) (a2 / 8)) ((2 ^ (a2 % 8).toNat) % 256)))))
        have n2_ := Aside0.mk (below_drew (HB.out.setCell (p := ⟨g, (a2 / 8).toNat, none⟩) GE7.out (.int .u8 (Go.bits .xor .u8 (rd (bytesOf (a0_1.extract 0 a1.toNat)) (a2 / 8)) ((2 ^ (a2 % 8).toNat) % 256)))))
        clear BK3 BK6 HB hcell hfree e1 e2 kc
        generalize (w1.setCell ⟨g, (a2 / 8).toNat, none⟩ (.int .u8 (Go.bits .xor .u8 (rd (bytesOf (a0_1.extract 0 a1.toNat)) (a2 / 8)) ((2 ^ (a2 % 8).toNat) % 256)))).drew = w2 at *
        have BK3 := n0_
        have BK6 := n1_
        have HB := n2_
        clear n0_ n1_ n2_
        have hnb := NB36.out; have hnc := NB63.out; have hc30 : w2.cell? ⟨gb3, 0, none⟩ = some (.string a0_0) := (blk_cell BK3.out 0).trans rfl; have hc31 : w2.cell? ⟨gb3, 1, none⟩ = some (.string a0_1) := (blk_cell BK3.out 1).trans rfl; have hc60 : w2.cell? ⟨gb6, 0, none⟩ = some (.string (⟨#[]⟩ : ByteArray)) := (blk_cell BK6.out 0).trans rfl; have hc61 : w2.cell? ⟨gb6, 1, none⟩ = some (.string (⟨#[]⟩ : ByteArray)) := (blk_cell BK6.out 1).trans rfl; have hf60 := blk_frozen BK6.out 0; have hf61 := blk_frozen BK6.out 1
        have hbk : (convert 56 9 (.slice (some ⟨g, 0, none⟩) (a0_1.extract 0 a1.toNat).size cap)).run Try.prog w2 = .ok (.string (turnBit (a0_1.extract 0 a1.toNat) a2)) w2 := hback.out
        rw [HE.out] at hbk
        clear hback
        have s1 : a0_0.size + (turnBit (a0_1.extract 0 a1.toNat) a2).size ≤ 9223372036854775807 := HS.out
        have s2 := eq_true s1
        have s3 : (9223372036854775807 < a0_0.size + (turnBit (a0_1.extract 0 a1.toNat) a2).size) = False := eq_false (Nat.not_lt.2 s1)
        clear s1
        go_wp2
        refine bodyPost_ret (results_ct rfl _ _ gb6 33 #[.string (a0_0 ++ turnBit (a0_1.extract 0 a1.toNat) a2), .string (⟨#[]⟩ : ByteArray)] (0, 0) _ rfl (by (with_reducible repeat (first | refine blk_drewN ?_ _ | refine blk_drew ?_ | refine blk_alloc ?_ _)); refine blk_put (cs := #[.string (a0_0 ++ turnBit (a0_1.extract 0 a1.toNat) a2), .string (⟨#[]⟩ : ByteArray)]) ?_ 1 _ rfl; (with_reducible repeat (first | refine blk_drewN ?_ _ | refine blk_drew ?_ | refine blk_alloc ?_ _)); refine blk_put (cs := #[.string (⟨#[]⟩ : ByteArray), .string (⟨#[]⟩ : ByteArray)]) ?_ 0 _ rfl; (with_reducible repeat (first | refine blk_drewN ?_ _ | refine blk_drew ?_ | refine blk_alloc ?_ _)); exact BK6.out) Try.underlying33 rfl (by kernel_rfl)) rfl ?_
        exact ⟨rfl, (by repeat (first | (with_reducible first | exact HB.out | apply below_alloc | apply pw_below_drewN | apply below_drew1 | refine below_set ?_ GE3.out | refine below_set ?_ GE6.out) | exact HB.out))⟩
      · rw [if_neg k5] at h
        simp only [Option.some.injEq, Prod.mk.injEq] at h
        obtain ⟨rfl, rfl, rfl⟩ := h
        have kc := fun (w : World) => Lib.run_convert_string_bytes (P := Try.prog) w 9 56 5 (a0_1.extract 0 a1.toNat) Try.underlying9 Try.underlying56 Try.underlying5
        go_enter Try.func27, Try.ntmps27
        go_upto_region 1 with (first | ((with_reducible refine gate_dst (N := 3) rfl ?_); refine box_event ?hg (N := 3) ?hd (cs := #[.string a0_0, .string a0_1]) (t := 33) ?hr ?_; (case hd => rfl); (case hg => rfl); (case hr => first | (go_simp; done) | (go_simp; rfl)); intro gb3 hg w5 hbox hb; have n0_ := Aside0.mk (below_step (by repeat (first | (with_reducible first | exact HB.out | apply below_alloc | apply pw_below_drewN | apply below_drew1) | exact HB.out)) hb); have n1_ := Aside0.mk hbox; have n3_ := Aside0.mk ((by rw [hg]; exact (below_size (by repeat (first | (with_reducible first | exact HB.out | apply below_alloc | apply pw_below_drewN | apply below_drew1) | exact HB.out)))) : w.heap.size ≤ gb3); clear HB; have HB := n0_; have BK3 := n1_; have GE3 := n3_; clear n0_ n1_ n3_; clear hb hbox hg) | ((with_reducible refine gate_dst (N := 6) rfl ?_); refine box_event ?hg (N := 6) ?hd (cs := #[.string (⟨#[]⟩ : ByteArray), .string (⟨#[]⟩ : ByteArray)]) (t := 33) ?hr ?_; (case hd => rfl); (case hg => rfl); (case hr => first | (go_simp; done) | (go_simp; rfl)); intro gb6 hg w6 hbox hb; have n0_ := Aside0.mk (blk_below (g := gb3) (o := .cells #[.string a0_0, .string a0_1] 33 (0, 0)) (by (with_reducible repeat (first | refine blk_drewN ?_ _ | refine blk_drew ?_ | refine blk_alloc ?_ _)); exact BK3.out) hb); have n1_ := Aside0.mk (below_step (by repeat (first | (with_reducible first | exact HB.out | apply below_alloc | apply pw_below_drewN | apply below_drew1) | exact HB.out)) hb); have n2_ := Aside0.mk hbox; have n4_ := Aside0.mk ((by rw [hg]; exact (below_size (by repeat (first | (with_reducible first | exact HB.out | apply below_alloc | apply pw_below_drewN | apply below_drew1) | exact HB.out)))) : w.heap.size ≤ gb6); have n5_ := Aside0.mk ((by rw [hg]; exact Nat.ne_of_lt (blk_lt (g := gb3) (o := .cells #[.string a0_0, .string a0_1] 33 (0, 0)) (by (with_reducible repeat (first | refine blk_drewN ?_ _ | refine blk_drew ?_ | refine blk_alloc ?_ _)); exact BK3.out))) : gb3 ≠ gb6); have n6_ := Aside0.mk (fun e => n5_.out e.symm : gb6 ≠ gb3); clear BK3; clear HB; have BK3 := n0_; have HB := n1_; have BK6 := n2_; have GE6 := n4_; have NB36 := n5_; have NB63 := n6_; clear n0_ n1_ n2_ n4_ n5_ n6_; clear hb hbox hg))
        have hnb := NB36.out; have hnc := NB63.out; have hc30 : w6.cell? ⟨gb3, 0, none⟩ = some (.string a0_0) := (blk_cell BK3.out 0).trans rfl; have hc31 : w6.cell? ⟨gb3, 1, none⟩ = some (.string a0_1) := (blk_cell BK3.out 1).trans rfl; have hc60 : w6.cell? ⟨gb6, 0, none⟩ = some (.string (⟨#[]⟩ : ByteArray)) := (blk_cell BK6.out 0).trans rfl; have hc61 : w6.cell? ⟨gb6, 1, none⟩ = some (.string (⟨#[]⟩ : ByteArray)) := (blk_cell BK6.out 1).trans rfl; have hf60 := blk_frozen BK6.out 0; have hf61 := blk_frozen BK6.out 1
        have d1 : decide (a1 < 0) = false := decide_eq_false k1
        have d2 : decide ((a0_1.size : Int) < a1) = false := decide_eq_false k2
        have d3 : decide (a2 < -1) = false := decide_eq_false k3
        have d4 : decide (8 * a1 ≤ a2) = false := decide_eq_false k4
        have d5 : decide (0 ≤ a2) = false := decide_eq_false k5
        have b1 : 0 ≤ a1 := by omega
        have b2 : a1 ≤ (a0_1.size : Int) := by omega
        have b3 : a1 ≤ 140737488351232 := by omega
        have HE := Aside0.mk hes
        clear hes
        go_wp2_with ((with_reducible refine gate_dst (N := 33) rfl ?_); refine conv_event ?hg (N := 33) ?hd (e := 5) (s := a0_1.extract 0 a1.toNat) ?hr ?_; (case hd => rfl); (case hg => rfl); (case hr => first | (go_simp; done) | (go_simp; rfl)); intro g hg cap hcap w1 hr1 hf1 hb1 hgl; have n0_ := Aside0.mk (blk_below BK3.out hb1); have n1_ := Aside0.mk (blk_below BK6.out hb1); have n2_ := Aside0.mk (below_step HB.out hb1); have n3_ := Aside0.mk ((by rw [hg]; exact HB.out.size) : w.heap.size ≤ g); have n4_ := Aside0.mk ((by rw [hg]; exact Nat.ne_of_lt (blk_lt BK3.out)) : gb3 ≠ g); have n5_ := Aside0.mk ((by rw [hg]; exact Nat.ne_of_lt (blk_lt BK6.out)) : gb6 ≠ g); clear hg BK3 BK6 HB hc30 hc31 hc60 hc61 hf60 hf61; have BK3 := n0_; have BK6 := n1_; have HB := n2_; have GE7 := n3_; have NB37 := n4_; have NB67 := n5_; clear n0_ n1_ n2_ n3_ n4_ n5_; have hsz : (a0_1.extract 0 a1.toNat).size ≤ 9223372036854775807 := (by rw [HE.out]; omega); have hback := bytes_same (P := Try.prog) (c := cap) Try.underlying56 Try.underlying5 Try.underlying9 (bytesOf_length _) hsz hr1; rw [strOf_bytesOf, HE.out] at hback; have s1 : a0_0.size + (a0_1.extract 0 a1.toNat).size ≤ 9223372036854775807 := (by rw [HE.out]; omega); have s2 := eq_true s1; have s3 : (9223372036854775807 < a0_0.size + (a0_1.extract 0 a1.toNat).size) = False := eq_false (Nat.not_lt.2 s1); clear s1 hsz hr1 hf1 kc; have hnb := NB36.out; have hnc := NB63.out; have hc30 : w1.cell? ⟨gb3, 0, none⟩ = some (.string a0_0) := (blk_cell BK3.out 0).trans rfl; have hc31 : w1.cell? ⟨gb3, 1, none⟩ = some (.string a0_1) := (blk_cell BK3.out 1).trans rfl; have hc60 : w1.cell? ⟨gb6, 0, none⟩ = some (.string (⟨#[]⟩ : ByteArray)) := (blk_cell BK6.out 0).trans rfl; have hc61 : w1.cell? ⟨gb6, 1, none⟩ = some (.string (⟨#[]⟩ : ByteArray)) := (blk_cell BK6.out 1).trans rfl; have hf60 := blk_frozen BK6.out 0; have hf61 := blk_frozen BK6.out 1)
        refine bodyPost_ret (results_ct rfl _ _ gb6 33 #[.string (a0_0 ++ a0_1.extract 0 a1.toNat), .string (⟨#[]⟩ : ByteArray)] (0, 0) _ rfl (by (with_reducible repeat (first | refine blk_drewN ?_ _ | refine blk_drew ?_ | refine blk_alloc ?_ _)); refine blk_put (cs := #[.string (a0_0 ++ a0_1.extract 0 a1.toNat), .string (⟨#[]⟩ : ByteArray)]) ?_ 1 _ rfl; (with_reducible repeat (first | refine blk_drewN ?_ _ | refine blk_drew ?_ | refine blk_alloc ?_ _)); refine blk_put (cs := #[.string (⟨#[]⟩ : ByteArray), .string (⟨#[]⟩ : ByteArray)]) ?_ 0 _ rfl; (with_reducible repeat (first | refine blk_drewN ?_ _ | refine blk_drew ?_ | refine blk_alloc ?_ _)); exact BK6.out) Try.underlying33 rfl (by kernel_rfl)) rfl ?_
        exact ⟨rfl, (by repeat (first | (with_reducible first | exact HB.out | apply below_alloc | apply pw_below_drewN | apply below_drew1 | refine below_set ?_ GE3.out | refine below_set ?_ GE6.out) | exact HB.out))⟩
  · rw [if_neg h0] at h
    exact absurd h (by simp)

/-! ### journal_New: function 30 -/
def journal_New.f  : Option (ByteArray × ByteArray) := some ((⟨#[]⟩ : ByteArray), (⟨#[]⟩ : ByteArray))
set_option maxHeartbeats 8000000 in
set_option maxRecDepth 100000 in
theorem journal_New.calls  (r1 : ByteArray) (r2 : ByteArray) (w : World) (h : journal_New.f  = some (r1, r2)) :
    Calls Try.prog 30 #[] w fun e w' => e = .returned (.agg #[.string r1, .string r2]) ∧ Below w.heap.size w w' := by
  have hu33 := Try.underlying33
  have HB := Aside0.mk (Below.refl w.heap.size w)
  have H : (some ((⟨#[]⟩ : ByteArray), (⟨#[]⟩ : ByteArray))) = some (r1, r2) := h
  clear h
  simp only [Option.some.injEq, Prod.mk.injEq] at H
  obtain ⟨rfl, rfl⟩ := H
  go_enter Try.func30, Try.ntmps30
  go_wp2_with (first | ((with_reducible refine gate_dst (N := 0) rfl ?_); refine box_event ?hg (N := 0) ?hd (cs := #[.string (⟨#[]⟩ : ByteArray), .string (⟨#[]⟩ : ByteArray)]) (t := 33) ?hr ?_; (case hd => rfl); (case hg => rfl); (case hr => first | (go_simp; done) | (go_simp; rfl)); intro gb132 hg w1 hbox hb; have n0_ := Aside0.mk (below_step (by repeat (first | (with_reducible first | exact HB.out | apply below_alloc | apply pw_below_drewN | apply below_drew1) | exact HB.out)) hb); have n1_ := Aside0.mk (hbox); have n2_ := Aside0.mk ((by rw [hg]; exact (below_size (by repeat (first | (with_reducible first | exact HB.out | apply below_alloc | apply pw_below_drewN | apply below_drew1) | exact HB.out))) : w.heap.size ≤ gb132)); have n3_ := Aside0.mk ((by rw [hg]; exact (below_size (by repeat (first | (with_reducible first | exact HB.out | apply below_alloc | apply pw_below_drewN | apply below_drew1) | exact HB.out))) : w.heap.size ≤ gb132)); clear HB; have HB := n0_; have BK132 := n1_; have GW132 := n2_; have GE132 := n3_; clear n0_ n1_ n2_ n3_; clear hb hbox hg; have hcz2_0 : w1.cell? ⟨gb132, 0, none⟩ = some (.string (⟨#[]⟩ : ByteArray)) := (blk_cell BK132.out 0).trans rfl; have hcz2_1 : w1.cell? ⟨gb132, 1, none⟩ = some (.string (⟨#[]⟩ : ByteArray)) := (blk_cell BK132.out 1).trans rfl; have hfz2_0 := blk_frozen BK132.out 0; have hfz2_1 := blk_frozen BK132.out 1))
  refine bodyPost_ret (results_cell_row rfl _ _ gb132 33 #[.string (⟨#[]⟩ : ByteArray), .string (⟨#[]⟩ : ByteArray)] (0, 0) _ rfl (by (with_reducible repeat (first | refine blk_drewN ?_ _ | refine blk_drew ?_ | refine blk_alloc ?_ _)); refine blk_put (cs := #[.string (⟨#[]⟩ : ByteArray), .string (⟨#[]⟩ : ByteArray)]) ?_ 1 _ rfl; (with_reducible repeat (first | refine blk_drewN ?_ _ | refine blk_drew ?_ | refine blk_alloc ?_ _)); refine blk_put (cs := #[.string (⟨#[]⟩ : ByteArray), .string (⟨#[]⟩ : ByteArray)]) ?_ 0 _ rfl; (with_reducible repeat (first | refine blk_drewN ?_ _ | refine blk_drew ?_ | refine blk_alloc ?_ _)); exact BK132.out) Try.underlying33 rfl (by kernel_rfl)) rfl ?_
  exact ⟨by first | rfl | (simp [errW_none, errW_some] <;> rfl) | (simp [*, errW_none, errW_some] <;> rfl), by repeat (first | (with_reducible first | exact HB.out | apply below_alloc | apply pw_below_drewN | apply below_drew1 | refine below_set ?_ GE132.out) | exact HB.out)⟩

/-! ### ancepslaw56_awake: function 11 -/
def ancepslaw56_awake.j0 : Nat → Bool → ByteArray → ByteArray → Option (Bool)
  | 0, _, _, _ => none
  | k + 1, x44, x141000, x141001 => if x44 = true then (some false) else ((journal_Check.f k (⟨#[]⟩ : ByteArray)).bind fun t149 => (if t149 = 7 then ((journal_Check.f k (⟨#[0]⟩ : ByteArray)).bind fun t150 => (if t150 = 117443334 then ((journal_Read.f k x141000 x141001).bind fun t151 => ((slices_Equal_string_string.f k t151 (([(⟨#[97]⟩ : ByteArray)] : List ByteArray))).bind fun t157 => (some t157))) else (some false))) else (some false)))
def ancepslaw56_awake.f (k : Nat)  : Option (Bool) := (journal_Frame.f k (⟨#[]⟩ : ByteArray)).bind fun bt133 => ((journal_New.f).bind fun bt135 => ((journal_Append.f k bt135.1 bt135.2 (⟨#[97]⟩ : ByteArray)).bind fun bt137 => ((journal_Sync.f bt137.1 bt137.2.1).bind fun bt141 => ((journal_Append.f k bt141.1 bt141.2 (⟨#[98]⟩ : ByteArray)).bind fun bt143 => ((journal_Crash.f bt143.1 bt143.2.1 8 (-1)).bind fun bt146 => (if bt133.2 = 0 then (if bt137.2.2 = 0 then (if bt143.2.2 = 0 then (if bt146.2.2 = 0 then (ancepslaw56_awake.j0 k (bt133.1.toList != ([0, 0, 255, 255, 0, 0, 0, 7] : List UInt8)) bt146.1 bt146.2.1) else (ancepslaw56_awake.j0 k true bt146.1 bt146.2.1)) else (ancepslaw56_awake.j0 k true bt146.1 bt146.2.1)) else (ancepslaw56_awake.j0 k true bt146.1 bt146.2.1)) else (ancepslaw56_awake.j0 k true bt146.1 bt146.2.1)))))))
theorem ancepslaw56_awake.mono_l : ∀ k, (∀ y0 y1 y2, LeO (ancepslaw56_awake.j0 k y0 y1 y2) (ancepslaw56_awake.j0 (k + 1) y0 y1 y2))
  | 0 => fun _ _ _ r h => by simp [ancepslaw56_awake.j0] at h
  | k + 1 => by
    have ih0 := ancepslaw56_awake.mono_l k
    · intro y0 y1 y2
      unfold ancepslaw56_awake.j0
      repeat' first
      | (with_reducible exact ih0 _ _ _)
      | (with_reducible exact journal_Append.mono _ _ _ _)
      | (with_reducible exact journal_Check.mono _ _)
      | (with_reducible exact journal_Frame.mono _ _)
      | (with_reducible exact journal_Read.mono _ _ _)
      | (with_reducible exact slices_Equal_string_string.mono _ _ _)
      | (with_reducible exact LeO.refl _)
      | (with_reducible exact LeO.none _)
      | (with_reducible refine LeO.ite ?_ ?_)
      | (with_reducible refine LeO.bind ?_ (fun _ => ?_))
      | exact ih0 _ _ _
      | exact journal_Append.mono _ _ _ _
      | exact journal_Check.mono _ _
      | exact journal_Frame.mono _ _
      | exact journal_Read.mono _ _ _
      | exact slices_Equal_string_string.mono _ _ _
      | exact LeO.none _
      | refine LeO.ite ?_ ?_
      | refine LeO.bind ?_ (fun _ => ?_)
theorem ancepslaw56_awake.mono : ∀ k, LeO (ancepslaw56_awake.f k ) (ancepslaw56_awake.f (k + 1) ) := by
  intro  k
  have ih0 := ancepslaw56_awake.mono_l k
  unfold ancepslaw56_awake.f
  repeat' first
      | (with_reducible exact ih0 _ _ _)
      | (with_reducible exact journal_Append.mono _ _ _ _)
      | (with_reducible exact journal_Check.mono _ _)
      | (with_reducible exact journal_Frame.mono _ _)
      | (with_reducible exact journal_Read.mono _ _ _)
      | (with_reducible exact slices_Equal_string_string.mono _ _ _)
      | (with_reducible exact LeO.refl _)
      | (with_reducible exact LeO.none _)
      | (with_reducible refine LeO.ite ?_ ?_)
      | (with_reducible refine LeO.bind ?_ (fun _ => ?_))
      | exact ih0 _ _ _
      | exact journal_Append.mono _ _ _ _
      | exact journal_Check.mono _ _
      | exact journal_Frame.mono _ _
      | exact journal_Read.mono _ _ _
      | exact slices_Equal_string_string.mono _ _ _
      | exact LeO.none _
      | refine LeO.ite ?_ ?_
      | refine LeO.bind ?_ (fun _ => ?_)
set_option maxHeartbeats 8000000 in
set_option maxRecDepth 100000 in
theorem ancepslaw56_awake.calls (k : Nat)  (r : Bool) (w : World) (h : ancepslaw56_awake.f k  = some r) :
    Calls Try.prog 11 #[] w fun e w' => e = .returned (.bool r) ∧ Below w.heap.size w w' := by
  have hu33 := Try.underlying33
  have HB := Aside0.mk (Below.refl w.heap.size w)
  have H : ((journal_Frame.f k (⟨#[]⟩ : ByteArray)).bind fun bt133 => ((journal_New.f).bind fun bt135 => ((journal_Append.f k bt135.1 bt135.2 (⟨#[97]⟩ : ByteArray)).bind fun bt137 => ((journal_Sync.f bt137.1 bt137.2.1).bind fun bt141 => ((journal_Append.f k bt141.1 bt141.2 (⟨#[98]⟩ : ByteArray)).bind fun bt143 => ((journal_Crash.f bt143.1 bt143.2.1 8 (-1)).bind fun bt146 => (if bt133.2 = 0 then (if bt137.2.2 = 0 then (if bt143.2.2 = 0 then (if bt146.2.2 = 0 then (ancepslaw56_awake.j0 k (bt133.1.toList != ([0, 0, 255, 255, 0, 0, 0, 7] : List UInt8)) bt146.1 bt146.2.1) else (ancepslaw56_awake.j0 k true bt146.1 bt146.2.1)) else (ancepslaw56_awake.j0 k true bt146.1 bt146.2.1)) else (ancepslaw56_awake.j0 k true bt146.1 bt146.2.1)) else (ancepslaw56_awake.j0 k true bt146.1 bt146.2.1)))))))) = some r := h
  clear h
  replace H := Option.bind_eq_some_iff.mp H
  obtain ⟨⟨t133, t134⟩, A10, H⟩ := H
  replace H : ((journal_New.f).bind fun bt135 => ((journal_Append.f k bt135.1 bt135.2 (⟨#[97]⟩ : ByteArray)).bind fun bt137 => ((journal_Sync.f bt137.1 bt137.2.1).bind fun bt141 => ((journal_Append.f k bt141.1 bt141.2 (⟨#[98]⟩ : ByteArray)).bind fun bt143 => ((journal_Crash.f bt143.1 bt143.2.1 8 (-1)).bind fun bt146 => (if t134 = 0 then (if bt137.2.2 = 0 then (if bt143.2.2 = 0 then (if bt146.2.2 = 0 then (ancepslaw56_awake.j0 k (t133.toList != ([0, 0, 255, 255, 0, 0, 0, 7] : List UInt8)) bt146.1 bt146.2.1) else (ancepslaw56_awake.j0 k true bt146.1 bt146.2.1)) else (ancepslaw56_awake.j0 k true bt146.1 bt146.2.1)) else (ancepslaw56_awake.j0 k true bt146.1 bt146.2.1)) else (ancepslaw56_awake.j0 k true bt146.1 bt146.2.1))))))) = some r := H
  have A1 := Aside0.mk A10
  clear A10
  replace H := Option.bind_eq_some_iff.mp H
  obtain ⟨⟨t135, t136⟩, A20, H⟩ := H
  replace H : ((journal_Append.f k t135 t136 (⟨#[97]⟩ : ByteArray)).bind fun bt137 => ((journal_Sync.f bt137.1 bt137.2.1).bind fun bt141 => ((journal_Append.f k bt141.1 bt141.2 (⟨#[98]⟩ : ByteArray)).bind fun bt143 => ((journal_Crash.f bt143.1 bt143.2.1 8 (-1)).bind fun bt146 => (if t134 = 0 then (if bt137.2.2 = 0 then (if bt143.2.2 = 0 then (if bt146.2.2 = 0 then (ancepslaw56_awake.j0 k (t133.toList != ([0, 0, 255, 255, 0, 0, 0, 7] : List UInt8)) bt146.1 bt146.2.1) else (ancepslaw56_awake.j0 k true bt146.1 bt146.2.1)) else (ancepslaw56_awake.j0 k true bt146.1 bt146.2.1)) else (ancepslaw56_awake.j0 k true bt146.1 bt146.2.1)) else (ancepslaw56_awake.j0 k true bt146.1 bt146.2.1)))))) = some r := H
  have A2 := Aside0.mk A20
  clear A20
  replace H := Option.bind_eq_some_iff.mp H
  obtain ⟨⟨t137, t138, t139⟩, A30, H⟩ := H
  replace H : ((journal_Sync.f t137 t138).bind fun bt141 => ((journal_Append.f k bt141.1 bt141.2 (⟨#[98]⟩ : ByteArray)).bind fun bt143 => ((journal_Crash.f bt143.1 bt143.2.1 8 (-1)).bind fun bt146 => (if t134 = 0 then (if t139 = 0 then (if bt143.2.2 = 0 then (if bt146.2.2 = 0 then (ancepslaw56_awake.j0 k (t133.toList != ([0, 0, 255, 255, 0, 0, 0, 7] : List UInt8)) bt146.1 bt146.2.1) else (ancepslaw56_awake.j0 k true bt146.1 bt146.2.1)) else (ancepslaw56_awake.j0 k true bt146.1 bt146.2.1)) else (ancepslaw56_awake.j0 k true bt146.1 bt146.2.1)) else (ancepslaw56_awake.j0 k true bt146.1 bt146.2.1))))) = some r := H
  have A3 := Aside0.mk A30
  clear A30
  replace H := Option.bind_eq_some_iff.mp H
  obtain ⟨⟨t141, t142⟩, A40, H⟩ := H
  replace H : ((journal_Append.f k t141 t142 (⟨#[98]⟩ : ByteArray)).bind fun bt143 => ((journal_Crash.f bt143.1 bt143.2.1 8 (-1)).bind fun bt146 => (if t134 = 0 then (if t139 = 0 then (if bt143.2.2 = 0 then (if bt146.2.2 = 0 then (ancepslaw56_awake.j0 k (t133.toList != ([0, 0, 255, 255, 0, 0, 0, 7] : List UInt8)) bt146.1 bt146.2.1) else (ancepslaw56_awake.j0 k true bt146.1 bt146.2.1)) else (ancepslaw56_awake.j0 k true bt146.1 bt146.2.1)) else (ancepslaw56_awake.j0 k true bt146.1 bt146.2.1)) else (ancepslaw56_awake.j0 k true bt146.1 bt146.2.1)))) = some r := H
  have A4 := Aside0.mk A40
  clear A40
  replace H := Option.bind_eq_some_iff.mp H
  obtain ⟨⟨t143, t144, t145⟩, A50, H⟩ := H
  replace H : ((journal_Crash.f t143 t144 8 (-1)).bind fun bt146 => (if t134 = 0 then (if t139 = 0 then (if t145 = 0 then (if bt146.2.2 = 0 then (ancepslaw56_awake.j0 k (t133.toList != ([0, 0, 255, 255, 0, 0, 0, 7] : List UInt8)) bt146.1 bt146.2.1) else (ancepslaw56_awake.j0 k true bt146.1 bt146.2.1)) else (ancepslaw56_awake.j0 k true bt146.1 bt146.2.1)) else (ancepslaw56_awake.j0 k true bt146.1 bt146.2.1)) else (ancepslaw56_awake.j0 k true bt146.1 bt146.2.1))) = some r := H
  have A5 := Aside0.mk A50
  clear A50
  replace H := Option.bind_eq_some_iff.mp H
  obtain ⟨⟨t146, t147, t148⟩, A60, H⟩ := H
  replace H : (if t134 = 0 then (if t139 = 0 then (if t145 = 0 then (if t148 = 0 then (ancepslaw56_awake.j0 k (t133.toList != ([0, 0, 255, 255, 0, 0, 0, 7] : List UInt8)) t146 t147) else (ancepslaw56_awake.j0 k true t146 t147)) else (ancepslaw56_awake.j0 k true t146 t147)) else (ancepslaw56_awake.j0 k true t146 t147)) else (ancepslaw56_awake.j0 k true t146 t147)) = some r := H
  have A6 := Aside0.mk A60
  clear A60
  have HC7 := Aside0.mk H
  clear H
  go_enter Try.func11, Try.ntmps11
  go_upto_region 5 with (first | ((with_reducible refine gate_callee (f := 12) rfl ?_); refine goesL_ (some 8) rfl rfl Try.func12 (by kernel_rfl) rfl #[.string (⟨#[]⟩ : ByteArray)] rfl (by (try simp only [List.map_toArray, List.map_cons, List.map_nil]); first | done | rfl | (simp only [List.length_drop, List.length_take]; rfl) | (simp only [decide_eq_true_eq, decide_eq_false_iff_not] at *; congr <;> (first | rfl | (refine (congrArg (Value.int .i64) ?_ : Value.int .i64 _ = Value.int .i64 _); unfold wrap64; omega) | fail)) | fail) ?_; (with_reducible refine (journal_Frame.calls k (⟨#[]⟩ : ByteArray) t133 t134 _ A1.out).mono ?_); rintro e w8 ⟨rfl, hb⟩; refine ⟨_, rfl, ?_⟩; have n0_ := Aside0.mk (below_step (by repeat (first | (with_reducible first | exact HB.out | apply below_alloc | apply pw_below_drewN | apply below_drew1) | exact HB.out)) hb); clear HB; have HB := n0_; clear n0_; (try clear hb); (try clear hb2); (try clear hk); (try clear hi)) | ((with_reducible refine gate_callee (f := 30) rfl ?_); refine goesL_ (some 12) rfl rfl Try.func30 (by kernel_rfl) rfl #[] rfl (by (try simp only [List.map_toArray, List.map_cons, List.map_nil]); first | done | rfl | (simp only [List.length_drop, List.length_take]; rfl) | (simp only [decide_eq_true_eq, decide_eq_false_iff_not] at *; congr <;> (first | rfl | (refine (congrArg (Value.int .i64) ?_ : Value.int .i64 _ = Value.int .i64 _); unfold wrap64; omega) | fail)) | fail) ?_; (with_reducible refine (journal_New.calls  t135 t136 _ A2.out).mono ?_); rintro e w9 ⟨rfl, hb⟩; refine ⟨_, rfl, ?_⟩; have n0_ := Aside0.mk (below_step (by repeat (first | (with_reducible first | exact HB.out | apply below_alloc | apply pw_below_drewN | apply below_drew1) | exact HB.out)) hb); clear HB; have HB := n0_; clear n0_; (try clear hb); (try clear hb2); (try clear hk); (try clear hi)) | ((with_reducible refine gate_callee (f := 21) rfl ?_); refine goesL_ (some 13) rfl rfl Try.func21 (by kernel_rfl) rfl #[.agg #[.string t135, .string t136], .string (⟨#[97]⟩ : ByteArray)] rfl (by (try simp only [List.map_toArray, List.map_cons, List.map_nil]); first | done | rfl | (simp only [List.length_drop, List.length_take]; rfl) | (simp only [decide_eq_true_eq, decide_eq_false_iff_not] at *; congr <;> (first | rfl | (refine (congrArg (Value.int .i64) ?_ : Value.int .i64 _ = Value.int .i64 _); unfold wrap64; omega) | fail)) | fail) ?_; (with_reducible refine (journal_Append.calls k t135 t136 (⟨#[97]⟩ : ByteArray) t137 t138 t139 _ A3.out).mono ?_); rintro e w10 ⟨rfl, hb⟩; refine ⟨_, rfl, ?_⟩; have n0_ := Aside0.mk (below_step (by repeat (first | (with_reducible first | exact HB.out | apply below_alloc | apply pw_below_drewN | apply below_drew1) | exact HB.out)) hb); clear HB; have HB := n0_; clear n0_; (try clear hb); (try clear hb2); (try clear hk); (try clear hi)) | ((with_reducible refine gate_dst (N := 3) rfl ?_); (try (refine gate_guard (by rfl) ?_; dsimp only)); refine box_event ?hg (N := 3) ?hd (cs := #[.string (⟨#[]⟩ : ByteArray), .string (⟨#[]⟩ : ByteArray)]) (t := 33) ?hr ?_; (case hd => rfl); (case hg => rfl); (case hr => first | (go_simp; done) | (go_simp; rfl)); intro gb140 hg w11 hbox hb; have n0_ := Aside0.mk (below_step (by repeat (first | (with_reducible first | exact HB.out | apply below_alloc | apply pw_below_drewN | apply below_drew1) | exact HB.out)) hb); have n1_ := Aside0.mk (hbox); have n2_ := Aside0.mk ((by rw [hg]; exact (below_size (by repeat (first | (with_reducible first | exact HB.out | apply below_alloc | apply pw_below_drewN | apply below_drew1) | exact HB.out))) : w.heap.size ≤ gb140)); have n3_ := Aside0.mk ((by rw [hg]; exact (below_size (by repeat (first | (with_reducible first | exact HB.out | apply below_alloc | apply pw_below_drewN | apply below_drew1) | exact HB.out))) : w.heap.size ≤ gb140)); clear HB; have HB := n0_; have BK140 := n1_; have GW140 := n2_; have GE140 := n3_; clear n0_ n1_ n2_ n3_; clear hb hbox hg; have hcz12_0 : w11.cell? ⟨gb140, 0, none⟩ = some (.string (⟨#[]⟩ : ByteArray)) := (blk_cell BK140.out 0).trans rfl; have hcz12_1 : w11.cell? ⟨gb140, 1, none⟩ = some (.string (⟨#[]⟩ : ByteArray)) := (blk_cell BK140.out 1).trans rfl; have hfz12_0 := blk_frozen BK140.out 0; have hfz12_1 := blk_frozen BK140.out 1) | ((with_reducible refine gate_callee (f := 23) rfl ?_); refine goesL_ (some 18) rfl rfl Try.func23 (by kernel_rfl) rfl #[.agg #[.string t137, .string t138]] rfl (by (try simp only [List.map_toArray, List.map_cons, List.map_nil]); first | done | rfl | (simp only [List.length_drop, List.length_take]; rfl) | (simp only [decide_eq_true_eq, decide_eq_false_iff_not] at *; congr <;> (first | rfl | (refine (congrArg (Value.int .i64) ?_ : Value.int .i64 _ = Value.int .i64 _); unfold wrap64; omega) | fail)) | fail) ?_; (with_reducible refine (journal_Sync.calls t137 t138 t141 t142 _ A4.out).mono ?_); rintro e w13 ⟨rfl, hb⟩; refine ⟨_, rfl, ?_⟩; have n0_ := Aside0.mk (blk_below (g := gb140) (o := .cells #[.string t137, .string t138] 33 (0, 0)) (by (with_reducible repeat (first | refine blk_drewN ?_ _ | refine blk_drew ?_ | refine blk_alloc ?_ _)); refine blk_put (cs := #[.string t137, .string (⟨#[]⟩ : ByteArray)]) ?_ 1 _ rfl; (with_reducible repeat (first | refine blk_drewN ?_ _ | refine blk_drew ?_ | refine blk_alloc ?_ _)); refine blk_put (cs := #[.string (⟨#[]⟩ : ByteArray), .string (⟨#[]⟩ : ByteArray)]) ?_ 0 _ rfl; (with_reducible repeat (first | refine blk_drewN ?_ _ | refine blk_drew ?_ | refine blk_alloc ?_ _)); exact BK140.out) hb); have n1_ := Aside0.mk (below_step (by repeat (first | (with_reducible first | exact HB.out | apply below_alloc | apply pw_below_drewN | apply below_drew1 | refine below_set ?_ GE140.out) | exact HB.out)) hb); clear BK140; clear HB; have BK140 := n0_; have HB := n1_; clear n0_ n1_; (try clear hb); (try clear hb2); (try clear hk); (try clear hi)) | ((with_reducible refine gate_callee (f := 21) rfl ?_); refine goesL_ (some 19) rfl rfl Try.func21 (by kernel_rfl) rfl #[.agg #[.string t141, .string t142], .string (⟨#[98]⟩ : ByteArray)] rfl (by (try simp only [List.map_toArray, List.map_cons, List.map_nil]); first | done | rfl | (simp only [List.length_drop, List.length_take]; rfl) | (simp only [decide_eq_true_eq, decide_eq_false_iff_not] at *; congr <;> (first | rfl | (refine (congrArg (Value.int .i64) ?_ : Value.int .i64 _ = Value.int .i64 _); unfold wrap64; omega) | fail)) | fail) ?_; (with_reducible refine (journal_Append.calls k t141 t142 (⟨#[98]⟩ : ByteArray) t143 t144 t145 _ A5.out).mono ?_); rintro e w14 ⟨rfl, hb⟩; refine ⟨_, rfl, ?_⟩; have n0_ := Aside0.mk (blk_below (g := gb140) (o := .cells #[.string t137, .string t138] 33 (0, 0)) (by (with_reducible repeat (first | refine blk_drewN ?_ _ | refine blk_drew ?_ | refine blk_alloc ?_ _)); exact BK140.out) hb); have n1_ := Aside0.mk (below_step (by repeat (first | (with_reducible first | exact HB.out | apply below_alloc | apply pw_below_drewN | apply below_drew1 | refine below_set ?_ GE140.out) | exact HB.out)) hb); clear BK140; clear HB; have BK140 := n0_; have HB := n1_; clear n0_ n1_; (try clear hb); (try clear hb2); (try clear hk); (try clear hi); have hcz15_0 : w14.cell? ⟨gb140, 0, none⟩ = some (.string t137) := (blk_cell BK140.out 0).trans rfl; have hcz15_1 : w14.cell? ⟨gb140, 1, none⟩ = some (.string t138) := (blk_cell BK140.out 1).trans rfl; have hfz15_0 := blk_frozen BK140.out 0; have hfz15_1 := blk_frozen BK140.out 1) | ((with_reducible refine gate_callee (f := 27) rfl ?_); refine goesL_ (some 24) rfl rfl Try.func27 (by kernel_rfl) rfl #[.agg #[.string t143, .string t144], .int .i64 8, .int .i64 (-1)] rfl (by (try simp only [List.map_toArray, List.map_cons, List.map_nil]); first | done | rfl | (simp only [List.length_drop, List.length_take]; rfl) | (simp only [decide_eq_true_eq, decide_eq_false_iff_not] at *; congr <;> (first | rfl | (refine (congrArg (Value.int .i64) ?_ : Value.int .i64 _ = Value.int .i64 _); unfold wrap64; omega) | fail)) | fail) ?_; (with_reducible refine (journal_Crash.calls t143 t144 8 (-1) t146 t147 t148 _ A6.out).mono ?_); rintro e w16 ⟨rfl, hb⟩; refine ⟨_, rfl, ?_⟩; have n0_ := Aside0.mk (blk_below (g := gb140) (o := .cells #[.string t143, .string t144] 33 (0, 0)) (by (with_reducible repeat (first | refine blk_drewN ?_ _ | refine blk_drew ?_ | refine blk_alloc ?_ _)); refine blk_put (cs := #[.string t143, .string t138]) ?_ 1 _ rfl; (with_reducible repeat (first | refine blk_drewN ?_ _ | refine blk_drew ?_ | refine blk_alloc ?_ _)); refine blk_put (cs := #[.string t137, .string t138]) ?_ 0 _ rfl; (with_reducible repeat (first | refine blk_drewN ?_ _ | refine blk_drew ?_ | refine blk_alloc ?_ _)); exact BK140.out) hb); have n1_ := Aside0.mk (below_step (by repeat (first | (with_reducible first | exact HB.out | apply below_alloc | apply pw_below_drewN | apply below_drew1 | refine below_set ?_ GE140.out) | exact HB.out)) hb); clear BK140; clear HB; have BK140 := n0_; have HB := n1_; clear n0_ n1_; (try clear hb); (try clear hb2); (try clear hk); (try clear hi); have hcz17_0 : w16.cell? ⟨gb140, 0, none⟩ = some (.string t143) := (blk_cell BK140.out 0).trans rfl; have hcz17_1 : w16.cell? ⟨gb140, 1, none⟩ = some (.string t144) := (blk_cell BK140.out 1).trans rfl; have hfz17_0 := blk_frozen BK140.out 0; have hfz17_1 := blk_frozen BK140.out 1))
  (try simp only [Act.put, List.setIfInBounds_toArray, List.set_cons_zero, List.set_cons_succ])
  go_cut [44] (fun v44 wc => ∃ (kq : Nat) (x44_6 : Bool), v44 = .bool x44_6 ∧ Aside0 (ancepslaw56_awake.j0 kq x44_6 t146 t147 = some r) ∧ Aside0 (kq ≤ k) ∧ Aside0 (wc.heap[gb140]? = some (.cells #[.string t146, .string t147] 33 (0, 0))) ∧ Aside0 (Below w.heap.size w wc))
  case first =>
    have H := HC7.out
    clear HC7
    by_cases c18 : t134 = 0
    · rw [if_pos c18] at H
      have c18b0 : (t134 == 0) = true := beq_iff_eq.mpr c18
      have c18b1 : (t134 != 0) = false := bne_eq_false_iff_eq.mpr c18
      clear c18
      (first | rw [c18b0] | (simp only [i64_w, i32_w]; rw [c18b0]) | skip)
      by_cases c19 : t139 = 0
      · rw [if_pos c19] at H
        have c19b0 : (t139 == 0) = true := beq_iff_eq.mpr c19
        have c19b1 : (t139 != 0) = false := bne_eq_false_iff_eq.mpr c19
        clear c19
        by_cases c20 : t145 = 0
        · rw [if_pos c20] at H
          have c20b0 : (t145 == 0) = true := beq_iff_eq.mpr c20
          have c20b1 : (t145 != 0) = false := bne_eq_false_iff_eq.mpr c20
          clear c20
          by_cases c21 : t148 = 0
          · rw [if_pos c21] at H
            have c21b0 : (t148 == 0) = true := beq_iff_eq.mpr c21
            have c21b1 : (t148 != 0) = false := bne_eq_false_iff_eq.mpr c21
            clear c21
            have H' := Aside0.mk H
            clear H
            go_wp2
            go_meet
            case rel => exact ⟨_, ((t133.toList != ([0, 0, 255, 255, 0, 0, 0, 7] : List UInt8))), (by first | rfl | (simp; done) | (simp [*]; done)), H', ⟨by first | omega | exact Nat.le_refl _⟩, ⟨by (with_reducible repeat (first | refine blk_drewN ?_ _ | refine blk_drew ?_ | refine blk_alloc ?_ _)); refine blk_put (cs := #[.string t146, .string t144]) ?_ 1 _ rfl; (with_reducible repeat (first | refine blk_drewN ?_ _ | refine blk_drew ?_ | refine blk_alloc ?_ _)); refine blk_put (cs := #[.string t143, .string t144]) ?_ 0 _ rfl; (with_reducible repeat (first | refine blk_drewN ?_ _ | refine blk_drew ?_ | refine blk_alloc ?_ _)); exact BK140.out⟩, ⟨by repeat (first | (with_reducible first | exact HB.out | apply below_alloc | apply pw_below_drewN | apply below_drew1 | refine below_set ?_ GE140.out) | exact HB.out)⟩⟩
          · rw [if_neg c21] at H
            have c21b0 : (t148 == 0) = false := beq_eq_false_iff_ne.mpr c21
            have c21b1 : (t148 != 0) = true := bne_iff_ne.mpr c21
            have H' := Aside0.mk H
            clear H
            go_wp2
            go_meet
            case rel => exact ⟨_, (true), (by first | rfl | (simp; done) | (simp [*]; done)), H', ⟨by first | omega | exact Nat.le_refl _⟩, ⟨by (with_reducible repeat (first | refine blk_drewN ?_ _ | refine blk_drew ?_ | refine blk_alloc ?_ _)); refine blk_put (cs := #[.string t146, .string t144]) ?_ 1 _ rfl; (with_reducible repeat (first | refine blk_drewN ?_ _ | refine blk_drew ?_ | refine blk_alloc ?_ _)); refine blk_put (cs := #[.string t143, .string t144]) ?_ 0 _ rfl; (with_reducible repeat (first | refine blk_drewN ?_ _ | refine blk_drew ?_ | refine blk_alloc ?_ _)); exact BK140.out⟩, ⟨by repeat (first | (with_reducible first | exact HB.out | apply below_alloc | apply pw_below_drewN | apply below_drew1 | refine below_set ?_ GE140.out) | exact HB.out)⟩⟩
        · rw [if_neg c20] at H
          have c20b0 : (t145 == 0) = false := beq_eq_false_iff_ne.mpr c20
          have c20b1 : (t145 != 0) = true := bne_iff_ne.mpr c20
          have H' := Aside0.mk H
          clear H
          go_wp2
          go_meet
          case rel => exact ⟨_, (true), (by first | rfl | (simp; done) | (simp [*]; done)), H', ⟨by first | omega | exact Nat.le_refl _⟩, ⟨by (with_reducible repeat (first | refine blk_drewN ?_ _ | refine blk_drew ?_ | refine blk_alloc ?_ _)); refine blk_put (cs := #[.string t146, .string t144]) ?_ 1 _ rfl; (with_reducible repeat (first | refine blk_drewN ?_ _ | refine blk_drew ?_ | refine blk_alloc ?_ _)); refine blk_put (cs := #[.string t143, .string t144]) ?_ 0 _ rfl; (with_reducible repeat (first | refine blk_drewN ?_ _ | refine blk_drew ?_ | refine blk_alloc ?_ _)); exact BK140.out⟩, ⟨by repeat (first | (with_reducible first | exact HB.out | apply below_alloc | apply pw_below_drewN | apply below_drew1 | refine below_set ?_ GE140.out) | exact HB.out)⟩⟩
      · rw [if_neg c19] at H
        have c19b0 : (t139 == 0) = false := beq_eq_false_iff_ne.mpr c19
        have c19b1 : (t139 != 0) = true := bne_iff_ne.mpr c19
        have H' := Aside0.mk H
        clear H
        go_wp2
        go_meet
        case rel => exact ⟨_, (true), (by first | rfl | (simp; done) | (simp [*]; done)), H', ⟨by first | omega | exact Nat.le_refl _⟩, ⟨by (with_reducible repeat (first | refine blk_drewN ?_ _ | refine blk_drew ?_ | refine blk_alloc ?_ _)); refine blk_put (cs := #[.string t146, .string t144]) ?_ 1 _ rfl; (with_reducible repeat (first | refine blk_drewN ?_ _ | refine blk_drew ?_ | refine blk_alloc ?_ _)); refine blk_put (cs := #[.string t143, .string t144]) ?_ 0 _ rfl; (with_reducible repeat (first | refine blk_drewN ?_ _ | refine blk_drew ?_ | refine blk_alloc ?_ _)); exact BK140.out⟩, ⟨by repeat (first | (with_reducible first | exact HB.out | apply below_alloc | apply pw_below_drewN | apply below_drew1 | refine below_set ?_ GE140.out) | exact HB.out)⟩⟩
    · rw [if_neg c18] at H
      have c18b0 : (t134 == 0) = false := beq_eq_false_iff_ne.mpr c18
      have c18b1 : (t134 != 0) = true := bne_iff_ne.mpr c18
      (first | rw [c18b0] | (simp only [i64_w, i32_w]; rw [c18b0]) | skip)
      have H' := Aside0.mk H
      clear H
      go_wp2
      go_meet
      case rel => exact ⟨_, (true), (by first | rfl | (simp; done) | (simp [*]; done)), H', ⟨by first | omega | exact Nat.le_refl _⟩, ⟨by (with_reducible repeat (first | refine blk_drewN ?_ _ | refine blk_drew ?_ | refine blk_alloc ?_ _)); refine blk_put (cs := #[.string t146, .string t144]) ?_ 1 _ rfl; (with_reducible repeat (first | refine blk_drewN ?_ _ | refine blk_drew ?_ | refine blk_alloc ?_ _)); refine blk_put (cs := #[.string t143, .string t144]) ?_ 0 _ rfl; (with_reducible repeat (first | refine blk_drewN ?_ _ | refine blk_drew ?_ | refine blk_alloc ?_ _)); exact BK140.out⟩, ⟨by repeat (first | (with_reducible first | exact HB.out | apply below_alloc | apply pw_below_drewN | apply below_drew1 | refine below_set ?_ GE140.out) | exact HB.out)⟩⟩
  case rest =>
    clear HC7
    try clear c1
    try clear c2
    try clear p2
    try clear c3
    try clear p6
    try clear c11
    try clear c12
    try clear c18
    try clear c18b0
    try clear c18b1
    try clear c19
    try clear c19b0
    try clear c19b1
    try clear c20
    try clear c20b0
    try clear c20b1
    try clear c21
    try clear c21b0
    try clear c21b1
    try clear hcz12_0
    try clear hcz12_1
    try clear hcz15_0
    try clear hcz15_1
    try clear hcz17_0
    try clear hcz17_1
    try clear hfz12_0
    try clear hfz12_1
    try clear hfz15_0
    try clear hfz15_1
    try clear hfz17_0
    try clear hfz17_1
    obtain ⟨kq, x44_6, rfl, HA, HJ6, BK140, HB⟩ := hcut
    cases kq with
    | zero => exact absurd HA.out (by simp [ancepslaw56_awake.j0])
    | succ kj6 =>
      have H := HA.out
      clear HA
      simp only [ancepslaw56_awake.j0] at H
      by_cases c22 : x44_6 = true
      · subst c22
        have H1 : (some false) = some r := by rw [if_pos rfl] at H; exact H
        clear H
        have H := H1
        clear H1
        obtain rfl := Option.some.inj H
        go_wp2
        go_ret
        exact ⟨by first | rfl | (simp [errW_none, errW_some] <;> rfl) | (simp [*, errW_none, errW_some] <;> rfl), by repeat (first | (with_reducible first | exact HB.out | apply below_alloc | apply pw_below_drewN | apply below_drew1 | refine below_set ?_ GE140.out) | exact HB.out)⟩
      · replace c22 := Bool.eq_false_iff.mpr c22
        subst c22
        have H1 : ((journal_Check.f kj6 (⟨#[]⟩ : ByteArray)).bind fun t149 => (if t149 = 7 then ((journal_Check.f kj6 (⟨#[0]⟩ : ByteArray)).bind fun t150 => (if t150 = 117443334 then ((journal_Read.f kj6 t146 t147).bind fun t151 => ((slices_Equal_string_string.f kj6 t151 (([(⟨#[97]⟩ : ByteArray)] : List ByteArray))).bind fun t157 => (some t157))) else (some false))) else (some false))) = some r := by rw [if_neg (show ¬ (false = true) by decide)] at H; exact H
        clear H
        have H := H1
        clear H1
        replace H := Option.bind_eq_some_iff.mp H
        obtain ⟨t149, A230, H⟩ := H
        replace H : (if t149 = 7 then ((journal_Check.f kj6 (⟨#[0]⟩ : ByteArray)).bind fun t150 => (if t150 = 117443334 then ((journal_Read.f kj6 t146 t147).bind fun t151 => ((slices_Equal_string_string.f kj6 t151 (([(⟨#[97]⟩ : ByteArray)] : List ByteArray))).bind fun t157 => (some t157))) else (some false))) else (some false)) = some r := H
        have A23 := Aside0.mk A230
        clear A230
        by_cases c24 : t149 = 7
        · rw [if_pos c24] at H
          have c24b0 : (t149 == 7) = true := beq_iff_eq.mpr c24
          have c24b1 : (t149 != 7) = false := bne_eq_false_iff_eq.mpr c24
          clear c24
          replace H := Option.bind_eq_some_iff.mp H
          obtain ⟨t150, A250, H⟩ := H
          replace H : (if t150 = 117443334 then ((journal_Read.f kj6 t146 t147).bind fun t151 => ((slices_Equal_string_string.f kj6 t151 (([(⟨#[97]⟩ : ByteArray)] : List ByteArray))).bind fun t157 => (some t157))) else (some false)) = some r := H
          have A25 := Aside0.mk A250
          clear A250
          by_cases c26 : t150 = 117443334
          · rw [if_pos c26] at H
            have c26b0 : (t150 == 117443334) = true := beq_iff_eq.mpr c26
            have c26b1 : (t150 != 117443334) = false := bne_eq_false_iff_eq.mpr c26
            clear c26
            replace H := Option.bind_eq_some_iff.mp H
            obtain ⟨t151, A270, H⟩ := H
            replace H : ((slices_Equal_string_string.f kj6 t151 (([(⟨#[97]⟩ : ByteArray)] : List ByteArray))).bind fun t157 => (some t157)) = some r := H
            have A27 := Aside0.mk A270
            clear A270
            obtain ⟨y154, hy154⟩ : ∃ y_ : List ByteArray, y_ = (([(⟨#[97]⟩ : ByteArray)] : List ByteArray)) := ⟨_, rfl⟩
            replace H : ((slices_Equal_string_string.f kj6 t151 y154).bind fun t157 => (some t157)) = some r := by first | (rw [hy154]; with_reducible exact H) | (have H2_ := (Option.bind_some _ _).symm.trans H; rw [hy154]; with_reducible exact H2_) | (have H2_ := (Option.bind_some _ _).symm.trans H; with_reducible exact H2_) | with_reducible exact H | (rw [hy154]; exact H) | exact H
            have Ny154 := Aside0.mk hy154
            clear hy154
            replace H := Option.bind_eq_some_iff.mp H
            obtain ⟨t157, A280, H⟩ := H
            replace H : (some t157) = some r := H
            have A28 := Aside0.mk A280
            clear A280
            obtain rfl := Option.some.inj H
            go_wp2_with (first | ((with_reducible refine gate_callee (f := 14) rfl ?_); refine goesL_ (some 45) rfl rfl Try.func14 (by kernel_rfl) rfl #[.string (⟨#[]⟩ : ByteArray)] rfl (by (try simp only [List.map_toArray, List.map_cons, List.map_nil]); first | done | rfl | (simp only [List.length_drop, List.length_take]; rfl) | (simp only [decide_eq_true_eq, decide_eq_false_iff_not] at *; congr <;> (first | rfl | (refine (congrArg (Value.int .i64) ?_ : Value.int .i64 _ = Value.int .i64 _); unfold wrap64; omega) | fail)) | fail) ?_; (with_reducible refine (journal_Check.calls kj6 (⟨#[]⟩ : ByteArray) t149 _ A23.out).mono ?_); rintro e w' ⟨rfl, ⟨nd, rfl⟩⟩; refine ⟨_, rfl, ?_⟩) | (go_at_call 14; (with_reducible refine (journal_Check.calls kj6 (⟨#[0]⟩ : ByteArray) t150 _ A25.out).mono ?_); rintro e w' ⟨rfl, ⟨nd, rfl⟩⟩; have hcz29_0 : wc.cell? ⟨gb140, 0, none⟩ = some (.string t146) := (blk_cell BK140.out 0).trans rfl; have hcz29_1 : wc.cell? ⟨gb140, 1, none⟩ = some (.string t147) := (blk_cell BK140.out 1).trans rfl; have hfz29_0 := blk_frozen BK140.out 0; have hfz29_1 := blk_frozen BK140.out 1) | (go_at_call 25; (with_reducible refine (journal_Read.calls kj6 t146 t147 t151 _ A27.out).mono ?_); rintro e w30 ⟨v152, rfl, ho0, hb⟩; have n0_ := Aside0.mk (Kd.R_lower ho0 (below_size (by repeat (first | (with_reducible first | exact HB.out | apply below_alloc | apply pw_below_drewN | apply below_drew1 | refine below_set ?_ GE140.out) | exact HB.out)))); have n1_ := Aside0.mk (blk_below (g := gb140) (o := .cells #[.string t146, .string t147] 33 (0, 0)) (by (with_reducible repeat (first | refine blk_drewN ?_ _ | refine blk_drew ?_ | refine blk_alloc ?_ _)); exact BK140.out) hb); have n2_ := Aside0.mk (below_step (by repeat (first | (with_reducible first | exact HB.out | apply below_alloc | apply pw_below_drewN | apply below_drew1 | refine below_set ?_ GE140.out) | exact HB.out)) hb); clear BK140; clear HB; have HO153 := n0_; have BK140 := n1_; have HB := n2_; clear n0_ n1_ n2_; (try clear hb); (try clear hb2); (try clear hk); (try clear hi); (try clear ho0)) | ((with_reducible refine gate_dst (N := 54) rfl ?_); (try (refine gate_guard (by rfl) ?_; dsimp only)); refine Kd.R_lit Kd.string _ 9 ?hg (N := 54) ?hd (xs := ([(⟨#[97]⟩ : ByteArray)] : List ByteArray)) (inner := [.string (⟨#[97]⟩ : ByteArray)]) (ok := fun _ => True) (okp := fun _ => True) ?hr ?hp (fun _ hk => hk) trivial (Below.refl _ _) (Nat.le_refl _) (by simp) ?_; (case hd => rfl); (case hg => rfl); (case hr => first | (go_simp; done) | (go_simp; rfl)); (case hp => exact (Reps.one (show Kd.M Kd.string _ _ _ (⟨#[97]⟩ : ByteArray) [.string (⟨#[97]⟩ : ByteArray)] from rfl) (Reps.none _ _))); intro v155 w31 ho32 hb hg_ hnew_; clear hg_ hnew_; (first | rw [← Ny154.out] at ho32 | (simp only [Int.reduceToNat] at ho32; rw [← Ny154.out] at ho32)); have n0_ := Aside0.mk (Kd.R_elder' (by (with_reducible repeat (first | apply Kd.R_alloc | apply Kd.R_drewN | apply Kd.R_drew)); exact HO153.out) (Kd.R_base ho32) hb); have n1_ := Aside0.mk (Kd.R_lower (Kd.R_new' ho32 (Kd.R_lt (by (with_reducible repeat (first | apply Kd.R_alloc | apply Kd.R_drewN | apply Kd.R_drew)); exact HO153.out))) (below_size (by repeat (first | (with_reducible first | exact HB.out | apply below_alloc | apply pw_below_drewN | apply below_drew1 | refine below_set ?_ GE140.out) | exact HB.out)))); have n2_ := Aside0.mk (blk_below (g := gb140) (o := .cells #[.string t146, .string t147] 33 (0, 0)) (by (with_reducible repeat (first | refine blk_drewN ?_ _ | refine blk_drew ?_ | refine blk_alloc ?_ _)); exact BK140.out) hb); have n3_ := Aside0.mk (below_step (by repeat (first | (with_reducible first | exact HB.out | apply below_alloc | apply pw_below_drewN | apply below_drew1 | refine below_set ?_ GE140.out) | exact HB.out)) hb); clear HO153; clear BK140; clear HB; have HO153 := n0_; have HO156 := n1_; have BK140 := n2_; have HB := n3_; clear n0_ n1_ n2_ n3_; clear hb ho32; obtain ⟨Ao33, co33, eo33⟩ := Kd.R_slice HO153.out; subst eo33; obtain ⟨Ao34, co34, eo34⟩ := Kd.R_slice HO156.out; subst eo34) | (go_at_call 17; (with_reducible refine (slices_Equal_string_string.calls kj6 _ _ t151 _ _ y154 t157 _ ?side1 ?side2 ?side3 ?side4 A28.out).mono ?_); (case side1 => repeat (first | exact (Kd.R_reads' HO153.out).2.2 | (with_reducible refine Kd.C_alloc ?_ _) | (with_reducible refine Kd.C_drewN ?_ _) | (with_reducible refine Kd.C_drew ?_))); (case side2 => exact (Kd.R_reads' HO153.out).2.1); (case side3 => repeat (first | exact (Kd.R_reads' HO156.out).2.2 | (with_reducible refine Kd.C_alloc ?_ _) | (with_reducible refine Kd.C_drewN ?_ _) | (with_reducible refine Kd.C_drew ?_))); (case side4 => exact (Kd.R_reads' HO156.out).2.1); rintro e w' ⟨rfl, ⟨nd, rfl⟩⟩))
            go_ret
            exact ⟨by first | rfl | (simp [errW_none, errW_some] <;> rfl) | (simp [*, errW_none, errW_some] <;> rfl), by repeat (first | (with_reducible first | exact HB.out | apply below_alloc | apply pw_below_drewN | apply below_drew1 | refine below_set ?_ GE140.out) | exact HB.out)⟩
          · rw [if_neg c26] at H
            have c26b0 : (t150 == 117443334) = false := beq_eq_false_iff_ne.mpr c26
            have c26b1 : (t150 != 117443334) = true := bne_iff_ne.mpr c26
            obtain rfl := Option.some.inj H
            go_wp2_with (first | ((with_reducible refine gate_callee (f := 14) rfl ?_); refine goesL_ (some 45) rfl rfl Try.func14 (by kernel_rfl) rfl #[.string (⟨#[]⟩ : ByteArray)] rfl (by (try simp only [List.map_toArray, List.map_cons, List.map_nil]); first | done | rfl | (simp only [List.length_drop, List.length_take]; rfl) | (simp only [decide_eq_true_eq, decide_eq_false_iff_not] at *; congr <;> (first | rfl | (refine (congrArg (Value.int .i64) ?_ : Value.int .i64 _ = Value.int .i64 _); unfold wrap64; omega) | fail)) | fail) ?_; (with_reducible refine (journal_Check.calls kj6 (⟨#[]⟩ : ByteArray) t149 _ A23.out).mono ?_); rintro e w' ⟨rfl, ⟨nd, rfl⟩⟩; refine ⟨_, rfl, ?_⟩) | (go_at_call 14; (with_reducible refine (journal_Check.calls kj6 (⟨#[0]⟩ : ByteArray) t150 _ A25.out).mono ?_); rintro e w' ⟨rfl, ⟨nd, rfl⟩⟩))
            go_ret
            exact ⟨by first | rfl | (simp [errW_none, errW_some] <;> rfl) | (simp [*, errW_none, errW_some] <;> rfl), by repeat (first | (with_reducible first | exact HB.out | apply below_alloc | apply pw_below_drewN | apply below_drew1 | refine below_set ?_ GE140.out) | exact HB.out)⟩
        · rw [if_neg c24] at H
          have c24b0 : (t149 == 7) = false := beq_eq_false_iff_ne.mpr c24
          have c24b1 : (t149 != 7) = true := bne_iff_ne.mpr c24
          obtain rfl := Option.some.inj H
          go_wp2_with (first | ((with_reducible refine gate_callee (f := 14) rfl ?_); refine goesL_ (some 45) rfl rfl Try.func14 (by kernel_rfl) rfl #[.string (⟨#[]⟩ : ByteArray)] rfl (by (try simp only [List.map_toArray, List.map_cons, List.map_nil]); first | done | rfl | (simp only [List.length_drop, List.length_take]; rfl) | (simp only [decide_eq_true_eq, decide_eq_false_iff_not] at *; congr <;> (first | rfl | (refine (congrArg (Value.int .i64) ?_ : Value.int .i64 _ = Value.int .i64 _); unfold wrap64; omega) | fail)) | fail) ?_; (with_reducible refine (journal_Check.calls kj6 (⟨#[]⟩ : ByteArray) t149 _ A23.out).mono ?_); rintro e w' ⟨rfl, ⟨nd, rfl⟩⟩; refine ⟨_, rfl, ?_⟩))
          go_ret
          exact ⟨by first | rfl | (simp [errW_none, errW_some] <;> rfl) | (simp [*, errW_none, errW_some] <;> rfl), by repeat (first | (with_reducible first | exact HB.out | apply below_alloc | apply pw_below_drewN | apply below_drew1 | refine below_set ?_ GE140.out) | exact HB.out)⟩

/-! ### ancepsref56_Check: function 15 -/
def ancepsref56_Check.l0 : Nat → ByteArray → Int → Int → Option (Int)
  | 0, _, _, _ => none
  | k + 1, x0, x3, x4 => if x4 < (x0.size : Int) then (if 0 ≤ x4 then (ancepsref56_Check.l0 k x0 (Int.tmod (IntKind.u64.wrap ((IntKind.u64.wrap ((IntKind.u64.wrap (x3 * 16777619)) + (IntKind.u64.wrap (bt x0 x4)))) + 1)) 4294967296) (wrap64 (x4 + 1))) else (none)) else (some (wrap64 (x3)))
def ancepsref56_Check.f (k : Nat) (a0 : ByteArray) : Option (Int) := ancepsref56_Check.l0 k a0 7 0
theorem ancepsref56_Check.mono_l : ∀ k, (∀ y0 y1 y2, LeO (ancepsref56_Check.l0 k y0 y1 y2) (ancepsref56_Check.l0 (k + 1) y0 y1 y2))
  | 0 => fun _ _ _ r h => by simp [ancepsref56_Check.l0] at h
  | k + 1 => by
    have ih0 := ancepsref56_Check.mono_l k
    · intro y0 y1 y2
      unfold ancepsref56_Check.l0
      repeat' first
      | (with_reducible exact ih0 _ _ _)
      | (with_reducible exact LeO.refl _)
      | (with_reducible exact LeO.none _)
      | (with_reducible refine LeO.ite ?_ ?_)
      | (with_reducible refine LeO.bind ?_ (fun _ => ?_))
      | exact ih0 _ _ _
      | exact LeO.none _
      | refine LeO.ite ?_ ?_
      | refine LeO.bind ?_ (fun _ => ?_)
theorem ancepsref56_Check.mono : ∀ a0 k, LeO (ancepsref56_Check.f k a0) (ancepsref56_Check.f (k + 1) a0) := by
  intro a0 k
  have ih0 := ancepsref56_Check.mono_l k
  unfold ancepsref56_Check.f
  repeat' first
      | (with_reducible exact ih0 _ _ _)
      | (with_reducible exact LeO.refl _)
      | (with_reducible exact LeO.none _)
      | (with_reducible refine LeO.ite ?_ ?_)
      | (with_reducible refine LeO.bind ?_ (fun _ => ?_))
      | exact ih0 _ _ _
      | exact LeO.none _
      | refine LeO.ite ?_ ?_
      | refine LeO.bind ?_ (fun _ => ?_)
set_option maxHeartbeats 8000000 in
set_option maxRecDepth 100000 in
theorem ancepsref56_Check.calls (k : Nat) (a0 : ByteArray) (r : Int) (w : World) (h : ancepsref56_Check.f k a0 = some r) :
    Calls Try.prog 15 #[.string a0] w fun e w' => e = .returned (.int .i64 r) ∧ Drawn0 w w' := by
  have H : (ancepsref56_Check.l0 k a0 7 0) = some r := h
  clear h
  have H' := Aside0.mk H
  clear H
  go_enter Try.func15, Try.ntmps15
  go_wp2
  go_loopg [3, 4] k (fun kq v3 v4 w' => ∃ (x3_1 : Int) (x4_1 : Int), v3 = .int .u64 x3_1 ∧ v4 = .int .i64 x4_1 ∧ Aside0 (ancepsref56_Check.l0 kq a0 x3_1 x4_1 = some r) ∧ Aside0 (kq ≤ k) ∧ Drawn0 w w')
  case atStart => exact ⟨(7), (0), (by first | rfl | (simp; done) | (simp [*]; done)), (by first | rfl | (simp; done) | (simp [*]; done)), H', ⟨Nat.le_refl _⟩, by repeat (first | exact Drawn0.refl _ | apply Drawn0.step)⟩
  case round =>
    clear H'
    try clear c1
    obtain ⟨x3_1, x4_1, rfl, rfl, HA, HK1, ⟨m1, rfl⟩⟩ := hrel
    cases gk with
    | zero => exact absurd HA.out (by simp [ancepsref56_Check.l0])
    | succ k1 =>
      have H := HA.out
      clear HA
      simp only [ancepsref56_Check.l0] at H
      by_cases c2 : x4_1 < (a0.size : Int)
      · rw [if_pos c2] at H
        have c2b0 : decide (x4_1 < (a0.size : Int)) = true := decide_eq_true c2
        clear c2
        by_cases c3 : 0 ≤ x4_1
        · rw [if_pos c3] at H
          have c3b0 : decide (0 ≤ x4_1) = true := decide_eq_true c3
          clear c3
          have H' := Aside0.mk H
          clear H
          have p4 : 0 ≤ (x4_1 : Int) := of_decide_eq_true (by first | (with_reducible assumption) | assumption)
          have q4 : x4_1 < (a0.size : Int) := of_decide_eq_true (by first | (with_reducible assumption) | assumption)
          have hx4 := bt_at a0 x4_1
          replace p4 := eq_true p4
          replace q4 := eq_true q4
          go_wp2
          go_roundg k1
          case measure => have := HK1.out; omega
          case rel => exact ⟨(Int.tmod (IntKind.u64.wrap ((IntKind.u64.wrap ((IntKind.u64.wrap (x3_1 * 16777619)) + (IntKind.u64.wrap (bt a0 x4_1)))) + 1)) 4294967296), (wrap64 (x4_1 + 1)), (by first | rfl | (simp; done) | (simp [*]; done)), (by first | rfl | (simp; done) | (simp [*]; done)), H', ⟨by have := HK1.out; omega⟩, by repeat (first | exact Drawn0.refl _ | apply Drawn0.step)⟩
        · rw [if_neg c3] at H
          exact absurd H (by simp)
      · rw [if_neg c2] at H
        have c2b0 : decide (x4_1 < (a0.size : Int)) = false := decide_eq_false c2
        clear c2
        obtain rfl := Option.some.inj H
        go_wp2
        go_ret
        exact ⟨by first | rfl | (simp; done) | (simp [*]; done), by repeat (first | exact Drawn0.refl _ | apply Drawn0.step)⟩

/-! ### ancepsref56_number: function 35 -/
def ancepsref56_number.l0 : Nat → Int → Int → ByteArray → Int → Option (ByteArray)
  | 0, _, _, _, _ => none
  | k + 1, x0, x1, x5, x6 => if x6 < x1 then ((some (([(Int.tmod x0 256) % 256] : List Int) : List Int)).bind fun y158 => (if (strOfNums y158).size + x5.size ≤ 9223372036854775807 then (ancepsref56_number.l0 k (wrap64 (Int.tdiv x0 256)) x1 ((strOfNums y158) ++ x5) (wrap64 (x6 + 1))) else (none))) else (some x5)
def ancepsref56_number.f (k : Nat) (a0 : Int) (a1 : Int) : Option (ByteArray) := ancepsref56_number.l0 k a0 a1 (⟨#[]⟩ : ByteArray) 0
theorem ancepsref56_number.mono_l : ∀ k, (∀ y0 y1 y2 y3, LeO (ancepsref56_number.l0 k y0 y1 y2 y3) (ancepsref56_number.l0 (k + 1) y0 y1 y2 y3))
  | 0 => fun _ _ _ _ r h => by simp [ancepsref56_number.l0] at h
  | k + 1 => by
    have ih0 := ancepsref56_number.mono_l k
    · intro y0 y1 y2 y3
      unfold ancepsref56_number.l0
      repeat' first
      | (with_reducible exact ih0 _ _ _ _)
      | (with_reducible exact LeO.refl _)
      | (with_reducible exact LeO.none _)
      | (with_reducible refine LeO.ite ?_ ?_)
      | (with_reducible refine LeO.bind ?_ (fun _ => ?_))
      | exact ih0 _ _ _ _
      | exact LeO.none _
      | refine LeO.ite ?_ ?_
      | refine LeO.bind ?_ (fun _ => ?_)
theorem ancepsref56_number.mono : ∀ a0 a1 k, LeO (ancepsref56_number.f k a0 a1) (ancepsref56_number.f (k + 1) a0 a1) := by
  intro a0 a1 k
  have ih0 := ancepsref56_number.mono_l k
  unfold ancepsref56_number.f
  repeat' first
      | (with_reducible exact ih0 _ _ _ _)
      | (with_reducible exact LeO.refl _)
      | (with_reducible exact LeO.none _)
      | (with_reducible refine LeO.ite ?_ ?_)
      | (with_reducible refine LeO.bind ?_ (fun _ => ?_))
      | exact ih0 _ _ _ _
      | exact LeO.none _
      | refine LeO.ite ?_ ?_
      | refine LeO.bind ?_ (fun _ => ?_)
set_option maxHeartbeats 8000000 in
set_option maxRecDepth 100000 in
theorem ancepsref56_number.calls (k : Nat) (a0 : Int) (a1 : Int) (r : ByteArray) (w : World) (h : ancepsref56_number.f k a0 a1 = some r) :
    Calls Try.prog 35 #[.int .i64 a0, .int .i64 a1] w fun e w' => e = .returned (.string r) ∧ Below w.heap.size w w' := by
  have HB := Aside0.mk (Below.refl w.heap.size w)
  have H : (ancepsref56_number.l0 k a0 a1 (⟨#[]⟩ : ByteArray) 0) = some r := h
  clear h
  have H' := Aside0.mk H
  clear H
  go_enter Try.func35, Try.ntmps35
  go_wp2
  go_loopg [0, 5, 6] k (fun kq v0 v5 v6 w' => ∃ (x0_1 : Int) (x5_1 : ByteArray) (x6_1 : Int), v0 = .int .i64 x0_1 ∧ v5 = .string x5_1 ∧ v6 = .int .i64 x6_1 ∧ Aside0 (ancepsref56_number.l0 kq x0_1 a1 x5_1 x6_1 = some r) ∧ Aside0 (kq ≤ k) ∧ Aside0 (Below w.heap.size w w'))
  case atStart => exact ⟨(a0), ((⟨#[]⟩ : ByteArray)), (0), (by first | rfl | (simp; done) | (simp [*]; done)), (by first | rfl | (simp; done) | (simp [*]; done)), (by first | rfl | (simp; done) | (simp [*]; done)), H', ⟨Nat.le_refl _⟩, ⟨by repeat (first | (with_reducible first | exact HB.out | apply below_alloc | apply pw_below_drewN | apply below_drew1) | exact HB.out)⟩⟩
  case round =>
    clear H'
    try clear p2
    obtain ⟨x0_1, x5_1, x6_1, rfl, rfl, rfl, HA, HK1, HB⟩ := hrel
    cases gk with
    | zero => exact absurd HA.out (by simp [ancepsref56_number.l0])
    | succ k1 =>
      have H := HA.out
      clear HA
      simp only [ancepsref56_number.l0] at H
      by_cases c3 : x6_1 < a1
      · rw [if_pos c3] at H
        have c3b0 : decide (x6_1 < a1) = true := decide_eq_true c3
        clear c3
        obtain ⟨y158, hy158⟩ : ∃ y_ : List Int, y_ = (([(Int.tmod x0_1 256) % 256] : List Int)) := ⟨_, rfl⟩
        replace H : (if (strOfNums y158).size + x5_1.size ≤ 9223372036854775807 then (ancepsref56_number.l0 k1 (wrap64 (Int.tdiv x0_1 256)) a1 ((strOfNums y158) ++ x5_1) (wrap64 (x6_1 + 1))) else (none)) = some r := by first | (rw [hy158]; with_reducible exact H) | (have H2_ := (Option.bind_some _ _).symm.trans H; rw [hy158]; with_reducible exact H2_) | (have H2_ := (Option.bind_some _ _).symm.trans H; with_reducible exact H2_) | with_reducible exact H | (rw [hy158]; exact H) | exact H
        have Ny158 := Aside0.mk hy158
        clear hy158
        by_cases c4 : (strOfNums y158).size + x5_1.size ≤ 9223372036854775807
        · rw [if_pos c4] at H
          have c4b0 := eq_true c4
          have c4b1 : decide ((strOfNums y158).size + x5_1.size ≤ 9223372036854775807) = true := decide_eq_true c4
          try have c4b2 : (9223372036854775807 < (strOfNums y158).size + x5_1.size) = False := eq_false (Nat.not_lt.2 c4)
          have H' := Aside0.mk H
          clear H
          go_wp2_with (first | ((with_reducible refine gate_dst (N := 15) rfl ?_); refine Kd.R_lit (Kd.int .u8) _ 5 ?hg (N := 15) ?hd (xs := ([(Int.tmod x0_1 256) % 256] : List Int)) (inner := [.int .u8 ((Int.tmod x0_1 256) % 256)]) (ok := fun _ => True) (okp := fun _ => True) ?hr ?hp (fun _ hk => hk) trivial (Below.refl _ _) (Nat.le_refl _) (by simp) ?_; (case hd => rfl); (case hg => rfl); (case hr => first | (go_simp; done) | (go_simp; rfl)); (case hp => exact (Reps.one (show Kd.M (Kd.int .u8) _ _ _ ((Int.tmod x0_1 256) % 256) [.int .u8 ((Int.tmod x0_1 256) % 256)] from rfl) (Reps.none _ _))); intro v159 w5 ho6 hb hg_ hnew_; clear hg_ hnew_; (first | rw [← Ny158.out] at ho6 | (simp only [Int.reduceToNat] at ho6; rw [← Ny158.out] at ho6)); have n0_ := Aside0.mk (Kd.R_lower ho6 (below_size (by repeat (first | (with_reducible first | exact HB.out | apply below_alloc | apply pw_below_drewN | apply below_drew1) | exact HB.out)))); have n1_ := Aside0.mk (below_step (by repeat (first | (with_reducible first | exact HB.out | apply below_alloc | apply pw_below_drewN | apply below_drew1) | exact HB.out)) hb); clear HB; have HO160 := n0_; have HB := n1_; clear n0_ n1_; clear hb ho6; have hcv7 := own_string (P := Try.prog) Try.underlying56 Try.underlying5 Try.underlying9 (Kd.own_of_R HO160.out)))
          go_roundg k1
          case measure => have := HK1.out; omega
          case rel => exact ⟨(wrap64 (Int.tdiv x0_1 256)), ((strOfNums y158) ++ x5_1), (wrap64 (x6_1 + 1)), (by first | rfl | (simp; done) | (simp [*]; done)), (by first | rfl | (simp; done) | (simp [*]; done)), (by first | rfl | (simp; done) | (simp [*]; done)), H', ⟨by have := HK1.out; omega⟩, ⟨by repeat (first | (with_reducible first | exact HB.out | apply below_alloc | apply pw_below_drewN | apply below_drew1) | exact HB.out)⟩⟩
        · rw [if_neg c4] at H
          exact absurd H (by simp)
      · rw [if_neg c3] at H
        have c3b0 : decide (x6_1 < a1) = false := decide_eq_false c3
        clear c3
        obtain rfl := Option.some.inj H
        go_wp2
        go_ret
        exact ⟨by first | rfl | (simp [errW_none, errW_some] <;> rfl) | (simp [*, errW_none, errW_some] <;> rfl), by repeat (first | (with_reducible first | exact HB.out | apply below_alloc | apply pw_below_drewN | apply below_drew1) | exact HB.out)⟩

/-! ### ancepsref56_Frame: function 13 -/
def ancepsref56_Frame.f (k : Nat) (a0 : ByteArray) : Option (ByteArray × Int) := if (a0.size : Int) > 400 then (some ((⟨#[]⟩ : ByteArray), 3)) else ((ancepsref56_number.f k (a0.size : Int) 2).bind fun t161 => ((ancepsref56_number.f k (wrap64 (65535 - (a0.size : Int))) 2).bind fun t162 => (if t161.size + t162.size ≤ 9223372036854775807 then ((ancepsref56_Check.f k a0).bind fun t163 => ((ancepsref56_number.f k t163 4).bind fun t164 => (if t161.size + t162.size + t164.size ≤ 9223372036854775807 then (if t161.size + t162.size + t164.size + a0.size ≤ 9223372036854775807 then (some (((t161 ++ t162) ++ t164) ++ a0, 0)) else (none)) else (none)))) else (none))))
theorem ancepsref56_Frame.mono : ∀ a0 k, LeO (ancepsref56_Frame.f k a0) (ancepsref56_Frame.f (k + 1) a0) := by
  intro a0 k
  unfold ancepsref56_Frame.f
  repeat' first
      | (with_reducible exact ancepsref56_Check.mono _ _)
      | (with_reducible exact ancepsref56_number.mono _ _ _)
      | (with_reducible exact LeO.refl _)
      | (with_reducible exact LeO.none _)
      | (with_reducible refine LeO.ite ?_ ?_)
      | (with_reducible refine LeO.bind ?_ (fun _ => ?_))
      | exact ancepsref56_Check.mono _ _
      | exact ancepsref56_number.mono _ _ _
      | exact LeO.none _
      | refine LeO.ite ?_ ?_
      | refine LeO.bind ?_ (fun _ => ?_)
set_option maxHeartbeats 8000000 in
set_option maxRecDepth 100000 in
theorem ancepsref56_Frame.calls (k : Nat) (a0 : ByteArray) (r1 : ByteArray) (r2 : Int) (w : World) (h : ancepsref56_Frame.f k a0 = some (r1, r2)) :
    Calls Try.prog 13 #[.string a0] w fun e w' => e = .returned (.tuple #[.string r1, .int .i64 r2]) ∧ Below w.heap.size w w' := by
  have HB := Aside0.mk (Below.refl w.heap.size w)
  have H : (if (a0.size : Int) > 400 then (some ((⟨#[]⟩ : ByteArray), 3)) else ((ancepsref56_number.f k (a0.size : Int) 2).bind fun t161 => ((ancepsref56_number.f k (wrap64 (65535 - (a0.size : Int))) 2).bind fun t162 => (if t161.size + t162.size ≤ 9223372036854775807 then ((ancepsref56_Check.f k a0).bind fun t163 => ((ancepsref56_number.f k t163 4).bind fun t164 => (if t161.size + t162.size + t164.size ≤ 9223372036854775807 then (if t161.size + t162.size + t164.size + a0.size ≤ 9223372036854775807 then (some (((t161 ++ t162) ++ t164) ++ a0, 0)) else (none)) else (none)))) else (none))))) = some (r1, r2) := h
  clear h
  by_cases c2 : (a0.size : Int) > 400
  · rw [if_pos c2] at H
    have c2b0 : decide (400 < (a0.size : Int)) = true := decide_eq_true c2
    have c2b1 : decide (400 < a0.size) = true := decide_eq_true (by omega)
    clear c2
    simp only [Option.some.injEq, Prod.mk.injEq] at H
    obtain ⟨rfl, rfl⟩ := H
    go_enter Try.func13, Try.ntmps13
    go_wp2
    go_ret2
    exact ⟨by first | rfl | (simp [errW_none, errW_some] <;> rfl) | (simp [*, errW_none, errW_some] <;> rfl), by repeat (first | (with_reducible first | exact HB.out | apply below_alloc | apply pw_below_drewN | apply below_drew1) | exact HB.out)⟩
  · rw [if_neg c2] at H
    have c2b0 : decide (400 < (a0.size : Int)) = false := decide_eq_false c2
    have c2b1 : decide (400 < a0.size) = false := decide_eq_false (by omega)
    clear c2
    replace H := Option.bind_eq_some_iff.mp H
    obtain ⟨t161, A30, H⟩ := H
    replace H : ((ancepsref56_number.f k (wrap64 (65535 - (a0.size : Int))) 2).bind fun t162 => (if t161.size + t162.size ≤ 9223372036854775807 then ((ancepsref56_Check.f k a0).bind fun t163 => ((ancepsref56_number.f k t163 4).bind fun t164 => (if t161.size + t162.size + t164.size ≤ 9223372036854775807 then (if t161.size + t162.size + t164.size + a0.size ≤ 9223372036854775807 then (some (((t161 ++ t162) ++ t164) ++ a0, 0)) else (none)) else (none)))) else (none))) = some (r1, r2) := H
    have A3 := Aside0.mk A30
    clear A30
    replace H := Option.bind_eq_some_iff.mp H
    obtain ⟨t162, A40, H⟩ := H
    replace H : (if t161.size + t162.size ≤ 9223372036854775807 then ((ancepsref56_Check.f k a0).bind fun t163 => ((ancepsref56_number.f k t163 4).bind fun t164 => (if t161.size + t162.size + t164.size ≤ 9223372036854775807 then (if t161.size + t162.size + t164.size + a0.size ≤ 9223372036854775807 then (some (((t161 ++ t162) ++ t164) ++ a0, 0)) else (none)) else (none)))) else (none)) = some (r1, r2) := H
    have A4 := Aside0.mk A40
    clear A40
    by_cases c5 : t161.size + t162.size ≤ 9223372036854775807
    · rw [if_pos c5] at H
      have c5b0 := eq_true c5
      have c5b1 : decide (t161.size + t162.size ≤ 9223372036854775807) = true := decide_eq_true c5
      try have c5b2 : (9223372036854775807 < t161.size + t162.size) = False := eq_false (Nat.not_lt.2 c5)
      replace H := Option.bind_eq_some_iff.mp H
      obtain ⟨t163, A60, H⟩ := H
      replace H : ((ancepsref56_number.f k t163 4).bind fun t164 => (if t161.size + t162.size + t164.size ≤ 9223372036854775807 then (if t161.size + t162.size + t164.size + a0.size ≤ 9223372036854775807 then (some (((t161 ++ t162) ++ t164) ++ a0, 0)) else (none)) else (none))) = some (r1, r2) := H
      have A6 := Aside0.mk A60
      clear A60
      replace H := Option.bind_eq_some_iff.mp H
      obtain ⟨t164, A70, H⟩ := H
      replace H : (if t161.size + t162.size + t164.size ≤ 9223372036854775807 then (if t161.size + t162.size + t164.size + a0.size ≤ 9223372036854775807 then (some (((t161 ++ t162) ++ t164) ++ a0, 0)) else (none)) else (none)) = some (r1, r2) := H
      have A7 := Aside0.mk A70
      clear A70
      by_cases c8 : t161.size + t162.size + t164.size ≤ 9223372036854775807
      · rw [if_pos c8] at H
        have c8b0 := eq_true c8
        have c8b1 : decide (t161.size + t162.size + t164.size ≤ 9223372036854775807) = true := decide_eq_true c8
        try have c8b2 : (9223372036854775807 < t161.size + t162.size + t164.size) = False := eq_false (Nat.not_lt.2 c8)
        by_cases c9 : t161.size + t162.size + t164.size + a0.size ≤ 9223372036854775807
        · rw [if_pos c9] at H
          have c9b0 := eq_true c9
          have c9b1 : decide (t161.size + t162.size + t164.size + a0.size ≤ 9223372036854775807) = true := decide_eq_true c9
          try have c9b2 : (9223372036854775807 < t161.size + t162.size + t164.size + a0.size) = False := eq_false (Nat.not_lt.2 c9)
          simp only [Option.some.injEq, Prod.mk.injEq] at H
          obtain ⟨rfl, rfl⟩ := H
          go_enter Try.func13, Try.ntmps13
          go_wp2_with (first | ((with_reducible refine gate_callee (f := 35) rfl ?_); refine goesL_ (some 9) rfl rfl Try.func35 (by kernel_rfl) rfl #[.int .i64 (a0.size : Int), .int .i64 2] rfl (by (try simp only [List.map_toArray, List.map_cons, List.map_nil]); first | done | rfl | (simp only [List.length_drop, List.length_take]; rfl) | (simp only [decide_eq_true_eq, decide_eq_false_iff_not] at *; congr <;> (first | rfl | (refine (congrArg (Value.int .i64) ?_ : Value.int .i64 _ = Value.int .i64 _); unfold wrap64; omega) | fail)) | fail) ?_; (with_reducible refine (ancepsref56_number.calls k (a0.size : Int) 2 t161 _ A3.out).mono ?_); rintro e w10 ⟨rfl, hb⟩; refine ⟨_, rfl, ?_⟩; have n0_ := Aside0.mk (below_step (by repeat (first | (with_reducible first | exact HB.out | apply below_alloc | apply pw_below_drewN | apply below_drew1) | exact HB.out)) hb); clear HB; have HB := n0_; clear n0_; (try clear hb); (try clear hb2); (try clear hk); (try clear hi)) | ((with_reducible refine gate_callee (f := 35) rfl ?_); refine goesL_ (some 13) rfl rfl Try.func35 (by kernel_rfl) rfl #[.int .i64 (wrap64 (65535 - (a0.size : Int))), .int .i64 2] rfl (by (try simp only [List.map_toArray, List.map_cons, List.map_nil]); first | done | rfl | (simp only [List.length_drop, List.length_take]; rfl) | (simp only [decide_eq_true_eq, decide_eq_false_iff_not] at *; congr <;> (first | rfl | (refine (congrArg (Value.int .i64) ?_ : Value.int .i64 _ = Value.int .i64 _); unfold wrap64; omega) | fail)) | fail) ?_; (with_reducible refine (ancepsref56_number.calls k (wrap64 (65535 - (a0.size : Int))) 2 t162 _ A4.out).mono ?_); rintro e w11 ⟨rfl, hb⟩; refine ⟨_, rfl, ?_⟩; have n0_ := Aside0.mk (below_step (by repeat (first | (with_reducible first | exact HB.out | apply below_alloc | apply pw_below_drewN | apply below_drew1) | exact HB.out)) hb); clear HB; have HB := n0_; clear n0_; (try clear hb); (try clear hb2); (try clear hk); (try clear hi)) | ((with_reducible refine gate_callee (f := 15) rfl ?_); refine goesL_ (some 16) rfl rfl Try.func15 (by kernel_rfl) rfl #[.string a0] rfl (by (try simp only [List.map_toArray, List.map_cons, List.map_nil]); first | done | rfl | (simp only [List.length_drop, List.length_take]; rfl) | (simp only [decide_eq_true_eq, decide_eq_false_iff_not] at *; congr <;> (first | rfl | (refine (congrArg (Value.int .i64) ?_ : Value.int .i64 _ = Value.int .i64 _); unfold wrap64; omega) | fail)) | fail) ?_; (with_reducible refine (ancepsref56_Check.calls k a0 t163 _ A6.out).mono ?_); rintro e w' ⟨rfl, ⟨nd, rfl⟩⟩; refine ⟨_, rfl, ?_⟩) | ((with_reducible refine gate_callee (f := 35) rfl ?_); refine goesL_ (some 17) rfl rfl Try.func35 (by kernel_rfl) rfl #[.int .i64 t163, .int .i64 4] rfl (by (try simp only [List.map_toArray, List.map_cons, List.map_nil]); first | done | rfl | (simp only [List.length_drop, List.length_take]; rfl) | (simp only [decide_eq_true_eq, decide_eq_false_iff_not] at *; congr <;> (first | rfl | (refine (congrArg (Value.int .i64) ?_ : Value.int .i64 _ = Value.int .i64 _); unfold wrap64; omega) | fail)) | fail) ?_; (with_reducible refine (ancepsref56_number.calls k t163 4 t164 _ A7.out).mono ?_); rintro e w12 ⟨rfl, hb⟩; refine ⟨_, rfl, ?_⟩; have n0_ := Aside0.mk (below_step (by repeat (first | (with_reducible first | exact HB.out | apply below_alloc | apply pw_below_drewN | apply below_drew1) | exact HB.out)) hb); clear HB; have HB := n0_; clear n0_; (try clear hb); (try clear hb2); (try clear hk); (try clear hi)))
          go_ret2
          exact ⟨by first | rfl | (simp [errW_none, errW_some] <;> rfl) | (simp [*, errW_none, errW_some] <;> rfl), by repeat (first | (with_reducible first | exact HB.out | apply below_alloc | apply pw_below_drewN | apply below_drew1) | exact HB.out)⟩
        · rw [if_neg c9] at H
          exact absurd H (by simp)
      · rw [if_neg c8] at H
        exact absurd H (by simp)
    · rw [if_neg c5] at H
      exact absurd H (by simp)

end Go.Proofs.Ytoepdplglablcaa.J
