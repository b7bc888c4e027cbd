/- A part of the proof of the tied card of ProfileMerge (chapter 53): the law returns true whatever the input. -/
import Derived.Test.YtolenfcngomdfaaGreatDoorZU1
import Derived.Handy
set_option linter.unusedVariables false
set_option linter.unusedSimpArgs false
namespace Go.Proofs.YtolenfcngomdfaaGreatDoor.V
open Go.RowKit Go.Proofs.YtolenfcngomdfaaGreatDoorW.PrintWords Go.Proofs.YtolenfcngomdfaaGreatDoorW.PrintLast Go.Proofs.YtolenfcngomdfaaGreatDoorW.PrintMore
set_option linter.unusedVariables false
set_option linter.unusedSimpArgs false
theorem info3' : (Tryz.prog.info? 3).map (fun i => (i.zero, i.size, i.bytes)) = some (some (.int .i64 0), 1, 8) := by kernel_rfl
theorem info9' : (Tryz.prog.info? 9).map (fun i => (i.zero, i.size, i.bytes)) = some (some (.string ⟨#[]⟩), 1, 16) := by kernel_rfl
theorem info72' : (Tryz.prog.info? 72).map (fun i => (i.zero, i.size, i.bytes)) = some (some (.agg #[(.string ⟨#[]⟩), (.string ⟨#[]⟩)]), 2, 32) := by kernel_rfl
theorem nilS {P : Program} (w : World) {t e : TypeId} (a : Option Addr) (n c : Nat) (ht : P.underlying t = some (.slice e)) :
    (binOp .eql t (.slice a n c) (.slice none 0 0)).run P w = .ok (.bool a.isNone) w := by
  have h : ∀ d : Nat, (Op.equalIn (d + 1) t (.slice a n c) (.slice none 0 0)).run P w = .ok a.isNone w := fun d => by
    cases a <;> simp [Op.equalIn, run_underlying ht]
  simp only [binOp]
  simp [Op.equal, Op.maxDepth, h 9999]
set_option maxHeartbeats 8000000
set_option maxRecDepth 100000
theorem clone23 (A0 : Option Addr) (c0 : Nat) (l0 : List S72) (w : World) (hr0 : Kd.C k72 w A0 l0.length l0) (hc0 : l0.length ≤ c0) (hbig : l0.length ≤ 3000) :
    Calls Tryz.prog 23 #[.slice A0 l0.length c0] w fun e w' => ∃ v0_ : Value, e = .returned v0_ ∧ Kd.R k72 72 w' w.heap.size (fun _ => True) v0_ l0 ∧ Below w.heap.size w w' := by
  have HR0 := Aside0.mk hr0
  have HBIG := Aside0.mk hbig
  clear hr0 hbig
  have HB := Aside0.mk (Below.refl w.heap.size w)
  have hnil : ∀ W, (binOp .eql 22 (.slice A0 l0.length c0) (.slice none 0 0)).run Tryz.prog W = .ok (.bool A0.isNone) W := fun W => nilS W _ _ _ Tryz.underlying22
  cases A0 with
  | none =>
    have hn : l0.length = 0 := by
      rcases Nat.eq_zero_or_pos l0.length with h | h
      · exact h
      · obtain ⟨_, e0, _⟩ := HR0.out.2.2 h
        cases e0
    have HN := Aside0.mk hn
    clear hn
    go_enter Tryz.func23, Tryz.ntmps23
    go_wp2
    go_ret
    have hl : l0 = [] := List.length_eq_zero_iff.1 HN.out
    subst hl
    exact ⟨_, rfl, Kd.R_nil _ _ _ _ _, bel⟩
  | some ad =>
    go_enter Tryz.func23, Tryz.ntmps23
    go_wp2_with (first | ((with_reducible refine gate_dst (N := 5) rfl ?_); refine Kd.R_lit k72 (w0 := w) w.heap.size 72 ?hg (N := 5) ?hd (xs := ([] : List S72)) (inner := []) (ok := fun _ => True) (okp := fun _ => True) ?hr ?hp (fun _ hk => hk) trivial HB.out (Nat.le_refl _) (by simp) ?_; (case hd => rfl); (case hg => rfl); (case hr => first | (go_simp; done) | (go_simp; rfl)); (case hp => exact Reps.none _ _); intro v5 w5 ho hb hg_ hnew_; have n0 := Aside0.mk ho; have n1 := Aside0.mk (Kd.C_below HR0.out hb); clear HR0; have n2 := Aside0.mk hb; clear HB ho hb hg_ hnew_; have HB := n2; have HO := n0; have HR0 := n1; clear n0 n1 n2) | ((with_reducible refine gate_builtin (b := .append) (xs := #[.tmp 5, .tmp 6]) rfl ?_); at_builtin; refine Kd.R_append_rows k72 (w0 := w) w.heap.size rfl (.tmp 5) (.tmp 6) 22 72 (.agg #[(.string ⟨#[]⟩), (.string ⟨#[]⟩)]) 32 rfl Tryz.underlying22 info72' rfl (by decide) (by omega) v5 ([] : List S72) l0 (some ad) l0.length c0 (fun _ => True) (fun _ => False) rfl rfl ?aO ?aR (fun _ _ h => h) (fun _ h => h.elim) (fun _ _ => trivial) ?aB ?aS ?aL ?_; (case aO => exact skr); (case aR => exact skc); (case aB => exact bel); (case aS => exact (below_size bel)); (case aL => have := HBIG.out; simp only [List.length_nil]; omega); intro v7 w7 ho hb hg hat; rw [List.nil_append] at ho; have n0 := Aside0.mk ho; have n1 := Aside0.mk hb; clear HB HO ho hb hg hat; have HB := n1; have HO := n0; clear n0 n1))
    go_ret
    exact ⟨_, rfl, skr, bel⟩
def api_Verse_23.f (l : List S72) : Option (List S72) := if l.length ≤ 3000 then some l else none
theorem api_Verse_23.calls (A0 : Option Addr) (c0 : Nat) (l0 r : List S72) (w : World) (hr0 : Kd.C k72 w A0 l0.length l0) (hc0 : l0.length ≤ c0) (h : api_Verse_23.f l0 = some r) :
    Calls Tryz.prog 23 #[.slice A0 l0.length c0] w fun e w' => ∃ v0_ : Value, e = .returned v0_ ∧ Kd.R k72 72 w' w.heap.size (fun _ => True) v0_ r ∧ Below w.heap.size w w' := by
  unfold api_Verse_23.f at h
  by_cases hl : l0.length ≤ 3000
  · rw [if_pos hl] at h
    cases h
    exact clone23 A0 c0 l0 w hr0 hc0 hl
  · rw [if_neg hl] at h
    cases h
theorem clone24 (A0 : Option Addr) (c0 : Nat) (l0 : List ByteArray) (w : World) (hr0 : Kd.C Kd.string w A0 l0.length l0) (hc0 : l0.length ≤ c0) (hbig : l0.length ≤ 3000) :
    Calls Tryz.prog 24 #[.slice A0 l0.length c0] w fun e w' => ∃ v0_ : Value, e = .returned v0_ ∧ Kd.R Kd.string 9 w' w.heap.size (fun _ => True) v0_ l0 ∧ Below w.heap.size w w' := by
  have HR0 := Aside0.mk hr0
  have HBIG := Aside0.mk hbig
  clear hr0 hbig
  have HB := Aside0.mk (Below.refl w.heap.size w)
  have hnil : ∀ W, (binOp .eql 23 (.slice A0 l0.length c0) (.slice none 0 0)).run Tryz.prog W = .ok (.bool A0.isNone) W := fun W => nilS W _ _ _ Tryz.underlying23
  cases A0 with
  | none =>
    have hn : l0.length = 0 := by
      rcases Nat.eq_zero_or_pos l0.length with h | h
      · exact h
      · obtain ⟨_, e0, _⟩ := HR0.out.2.2 h
        cases e0
    have HN := Aside0.mk hn
    clear hn
    go_enter Tryz.func24, Tryz.ntmps24
    go_wp2
    go_ret
    have hl : l0 = [] := List.length_eq_zero_iff.1 HN.out
    subst hl
    exact ⟨_, rfl, Kd.R_nil _ _ _ _ _, bel⟩
  | some ad =>
    go_enter Tryz.func24, Tryz.ntmps24
    go_wp2_with (first | ((with_reducible refine gate_dst (N := 5) rfl ?_); refine Kd.R_lit Kd.string (w0 := w) w.heap.size 9 ?hg (N := 5) ?hd (xs := ([] : List ByteArray)) (inner := []) (ok := fun _ => True) (okp := fun _ => True) ?hr ?hp (fun _ hk => hk) trivial HB.out (Nat.le_refl _) (by simp) ?_; (case hd => rfl); (case hg => rfl); (case hr => first | (go_simp; done) | (go_simp; rfl)); (case hp => exact Reps.none _ _); intro v5 w5 ho hb hg_ hnew_; have n0 := Aside0.mk ho; have n1 := Aside0.mk (Kd.C_below HR0.out hb); clear HR0; have n2 := Aside0.mk hb; clear HB ho hb hg_ hnew_; have HB := n2; have HO := n0; have HR0 := n1; clear n0 n1 n2) | ((with_reducible refine gate_builtin (b := .append) (xs := #[.tmp 5, .tmp 6]) rfl ?_); at_builtin; refine Kd.R_append_rows Kd.string (w0 := w) w.heap.size rfl (.tmp 5) (.tmp 6) 23 9 (.string ⟨#[]⟩) 16 rfl Tryz.underlying23 info9' rfl (by decide) (by omega) v5 ([] : List ByteArray) l0 (some ad) l0.length c0 (fun _ => True) (fun _ => False) rfl rfl ?aO ?aR (fun _ _ h => h) (fun _ h => h.elim) (fun _ _ => trivial) ?aB ?aS ?aL ?_; (case aO => exact skr); (case aR => exact skc); (case aB => exact bel); (case aS => exact (below_size bel)); (case aL => have := HBIG.out; simp only [List.length_nil]; omega); intro v7 w7 ho hb hg hat; rw [List.nil_append] at ho; have n0 := Aside0.mk ho; have n1 := Aside0.mk hb; clear HB HO ho hb hg hat; have HB := n1; have HO := n0; clear n0 n1))
    go_ret
    exact ⟨_, rfl, skr, bel⟩
def slices_Clone_string_string.f (l : List ByteArray) : Option (List ByteArray) := if l.length ≤ 3000 then some l else none
theorem slices_Clone_string_string.calls (A0 : Option Addr) (c0 : Nat) (l0 r : List ByteArray) (w : World) (hr0 : Kd.C Kd.string w A0 l0.length l0) (hc0 : l0.length ≤ c0) (h : slices_Clone_string_string.f l0 = some r) :
    Calls Tryz.prog 24 #[.slice A0 l0.length c0] w fun e w' => ∃ v0_ : Value, e = .returned v0_ ∧ Kd.R Kd.string 9 w' w.heap.size (fun _ => True) v0_ r ∧ Below w.heap.size w w' := by
  unfold slices_Clone_string_string.f at h
  by_cases hl : l0.length ≤ 3000
  · rw [if_pos hl] at h
    cases h
    exact clone24 A0 c0 l0 w hr0 hc0 hl
  · rw [if_neg hl] at h
    cases h
theorem clone25 (A0 : Option Addr) (c0 : Nat) (l0 : List Int) (w : World) (hr0 : Kd.C (Kd.int .i64) w A0 l0.length l0) (hc0 : l0.length ≤ c0) (hbig : l0.length ≤ 3000) :
    Calls Tryz.prog 25 #[.slice A0 l0.length c0] w fun e w' => ∃ v0_ : Value, e = .returned v0_ ∧ Kd.R (Kd.int .i64) 3 w' w.heap.size (fun _ => True) v0_ l0 ∧ Below w.heap.size w w' := by
  have HR0 := Aside0.mk hr0
  have HBIG := Aside0.mk hbig
  clear hr0 hbig
  have HB := Aside0.mk (Below.refl w.heap.size w)
  have hnil : ∀ W, (binOp .eql 24 (.slice A0 l0.length c0) (.slice none 0 0)).run Tryz.prog W = .ok (.bool A0.isNone) W := fun W => nilS W _ _ _ Tryz.underlying24
  cases A0 with
  | none =>
    have hn : l0.length = 0 := by
      rcases Nat.eq_zero_or_pos l0.length with h | h
      · exact h
      · obtain ⟨_, e0, _⟩ := HR0.out.2.2 h
        cases e0
    have HN := Aside0.mk hn
    clear hn
    go_enter Tryz.func25, Tryz.ntmps25
    go_wp2
    go_ret
    have hl : l0 = [] := List.length_eq_zero_iff.1 HN.out
    subst hl
    exact ⟨_, rfl, Kd.R_nil _ _ _ _ _, bel⟩
  | some ad =>
    go_enter Tryz.func25, Tryz.ntmps25
    go_wp2_with (first | ((with_reducible refine gate_dst (N := 5) rfl ?_); refine Kd.R_lit (Kd.int .i64) (w0 := w) w.heap.size 3 ?hg (N := 5) ?hd (xs := ([] : List Int)) (inner := []) (ok := fun _ => True) (okp := fun _ => True) ?hr ?hp (fun _ hk => hk) trivial HB.out (Nat.le_refl _) (by simp) ?_; (case hd => rfl); (case hg => rfl); (case hr => first | (go_simp; done) | (go_simp; rfl)); (case hp => exact Reps.none _ _); intro v5 w5 ho hb hg_ hnew_; have n0 := Aside0.mk ho; have n1 := Aside0.mk (Kd.C_below HR0.out hb); clear HR0; have n2 := Aside0.mk hb; clear HB ho hb hg_ hnew_; have HB := n2; have HO := n0; have HR0 := n1; clear n0 n1 n2) | ((with_reducible refine gate_builtin (b := .append) (xs := #[.tmp 5, .tmp 6]) rfl ?_); at_builtin; refine Kd.R_append_rows (Kd.int .i64) (w0 := w) w.heap.size rfl (.tmp 5) (.tmp 6) 24 3 (.int .i64 0) 8 rfl Tryz.underlying24 info3' rfl (by decide) (by omega) v5 ([] : List Int) l0 (some ad) l0.length c0 (fun _ => True) (fun _ => False) rfl rfl ?aO ?aR (fun _ _ h => h) (fun _ h => h.elim) (fun _ _ => trivial) ?aB ?aS ?aL ?_; (case aO => exact skr); (case aR => exact skc); (case aB => exact bel); (case aS => exact (below_size bel)); (case aL => have := HBIG.out; simp only [List.length_nil]; omega); intro v7 w7 ho hb hg hat; rw [List.nil_append] at ho; have n0 := Aside0.mk ho; have n1 := Aside0.mk hb; clear HB HO ho hb hg hat; have HB := n1; have HO := n0; clear n0 n1))
    go_ret
    exact ⟨_, rfl, skr, bel⟩
def slices_Clone_int_int.f (l : List Int) : Option (List Int) := if l.length ≤ 3000 then some l else none
theorem slices_Clone_int_int.calls (A0 : Option Addr) (c0 : Nat) (l0 r : List Int) (w : World) (hr0 : Kd.C (Kd.int .i64) w A0 l0.length l0) (hc0 : l0.length ≤ c0) (h : slices_Clone_int_int.f l0 = some r) :
    Calls Tryz.prog 25 #[.slice A0 l0.length c0] w fun e w' => ∃ v0_ : Value, e = .returned v0_ ∧ Kd.R (Kd.int .i64) 3 w' w.heap.size (fun _ => True) v0_ r ∧ Below w.heap.size w w' := by
  unfold slices_Clone_int_int.f at h
  by_cases hl : l0.length ≤ 3000
  · rw [if_pos hl] at h
    cases h
    exact clone25 A0 c0 l0 w hr0 hc0 hl
  · rw [if_neg hl] at h
    cases h
end Go.Proofs.YtolenfcngomdfaaGreatDoor.V
namespace Go.Proofs.YtolenfcngomdfaaGreatDoor.V
open Go.RowKit Go.Proofs.YtolenfcngomdfaaGreatDoorW.PrintWords Go.Proofs.YtolenfcngomdfaaGreatDoorW.PrintLast Go.Proofs.YtolenfcngomdfaaGreatDoorW.PrintMore
set_option linter.unusedVariables false
set_option linter.unusedSimpArgs false
set_option maxHeartbeats 8000000
set_option maxRecDepth 100000
theorem grow_nil (n : Nat) (hn : n ≤ 5000) (w : World) : Calls Tryz.prog 50 #[.slice none 0 0, .int .i64 n] w fun e w' => ∃ v0_ : Value, e = .returned v0_ ∧ Kd.R k72 72 w' w.heap.size (fun _ => True) v0_ [] ∧ Below w.heap.size w w' := by
  have HB := Aside0.mk (Below.refl w.heap.size w)
  by_cases h0 : n = 0
  · subst h0
    go_enter Tryz.func50, Tryz.ntmps50
    go_wp2
    go_ret
    exact ⟨_, rfl, Kd.R_nil _ _ _ _ _, bel⟩
  · have hw : IntKind.i64.wrap (n : Int) = n := by rw [IntKind.wrap_i64]; omega
    have d1 : decide ((n : Int) < 0) = false := decide_eq_false (by omega)
    have d2 : decide (0 < (n : Int)) = true := decide_eq_true (by omega)
    have d3 : decide (0 < n) = true := decide_eq_true (by omega)
    have HN := Aside0.mk hn
    clear hn
    go_enter Tryz.func50, Tryz.ntmps50
    go_wp2_with (first | ((with_reducible refine gate_builtin (b := .append) (xs := #[.tmp 20, .tmp 21]) rfl ?_); at_builtin; refine Kd.R_append_zeros k72 (w0 := w) w.heap.size rfl (.tmp 20) (.tmp 21) 22 3 72 (.agg #[(.string ⟨#[]⟩), (.string ⟨#[]⟩)]) 32 rfl Tryz.underlying22 Tryz.underlying3 info72' rfl (by decide) (by decide) (.slice none 0 0) ([] : List S72) z72 (n : Int) (fun _ => True) rfl rfl ?az (fun _ _ => trivial) (Kd.R_nil _ _ _ _ _) (Int.natCast_nonneg n) ?aB ?aS ?aL ?_; (case az => exact k72_mkM _ _ _ z72); (case aB => exact bel); (case aS => exact (below_size bel)); (case aL => have := HN.out; simp only [List.length_nil, Int.toNat_natCast]; omega); intro v1 w1 ho hb hg hat; obtain ⟨A1, c1, e1⟩ := Kd.R_slice ho; subst e1; have HO := Aside0.mk ho; have n1 := Aside0.mk hb; clear HB ho hb hg hat; have HB := n1; clear n1))
    go_ret
    exact ⟨_, rfl, Kd.R_take HO.out (Nat.zero_le _), bel⟩
end Go.Proofs.YtolenfcngomdfaaGreatDoor.V
namespace Go.Proofs.YtolenfcngomdfaaGreatDoor.V
open Go.RowKit Go.Proofs.YtolenfcngomdfaaGreatDoorW.PrintWords Go.Proofs.YtolenfcngomdfaaGreatDoorW.PrintLast Go.Proofs.YtolenfcngomdfaaGreatDoorW.PrintMore
set_option linter.unusedVariables false
set_option linter.unusedSimpArgs false
set_option maxHeartbeats 8000000
set_option maxRecDepth 100000
theorem grow_sum (a b : Nat) (hn : a + b ≤ 5000) (w : World) : Calls Tryz.prog 50 #[.slice none 0 0, .int .i64 ((a : Int) + (b : Int))] w fun e w' => ∃ v0_ : Value, e = .returned v0_ ∧ Kd.R k72 72 w' w.heap.size (fun _ => True) v0_ [] ∧ Below w.heap.size w w' := grow_nil (a + b) hn w
theorem concat2 (g : Nat) (A0 A1 : Option Addr) (c0 c1 : Nat) (l0 l1 : List S72) (w : World) (hx0 : w.cell? ⟨g, 0, none⟩ = some (.slice A0 l0.length c0)) (hx1 : w.cell? ⟨g, 1, none⟩ = some (.slice A1 l1.length c1))
    (hr0 : Kd.C k72 w A0 l0.length l0) (hr1 : Kd.C k72 w A1 l1.length l1) (hbig : l0.length + l1.length ≤ 5000) :
    Calls Tryz.prog 22 #[.slice (some ⟨g, 0, none⟩) 2 2] w fun e w' => ∃ v0_ : Value, e = .returned v0_ ∧ Kd.R k72 72 w' w.heap.size (fun _ => True) v0_ (l0 ++ l1) ∧ Below w.heap.size w w' := by
  have HB := Aside0.mk (Below.refl w.heap.size w)
  have HR0 := Aside0.mk hr0
  have HR1 := Aside0.mk hr1
  have HX0 := Aside0.mk hx0
  have HX1 := Aside0.mk hx1
  have hw1 : IntKind.i64.wrap (l0.length : Int) = l0.length := by rw [IntKind.wrap_i64]; omega
  have hw2 : IntKind.i64.wrap ((l0.length : Int) + (l1.length : Int)) = ((l0.length + l1.length : Nat) : Int) := by rw [IntKind.wrap_i64]; omega
  have d1 : decide ((l0.length : Int) < 0) = false := decide_eq_false (by omega)
  have d2 : decide (((l0.length + l1.length : Nat) : Int) < 0) = false := decide_eq_false (by omega)
  have d3 : decide ((l0.length : Int) + (l1.length : Int) < 0) = false := decide_eq_false (by omega)
  have HN := Aside0.mk hbig
  clear hbig hr0 hr1
  go_enter Tryz.func22, Tryz.ntmps22
  go_wp2
  refine wp_loop_rounds 3 ?_
  rw [rounds_succ]
  go_wp2
  rw [rounds_succ]
  go_wp2
  rw [rounds_succ]
  go_wp2_with (first | ((with_reducible refine gate_callee (f := 50) rfl ?_); refine goesL_ (some 24) rfl rfl Tryz.func50 (by kernel_rfl) rfl #[.slice none 0 0, .int .i64 ((l0.length : Int) + (l1.length : Int))] rfl arg ?_; (with_reducible refine (grow_sum l0.length l1.length HN.out _).mono ?_); rintro e w4 ⟨v, rfl, ho0, hb⟩; refine ⟨_, rfl, ?_⟩; have n0_ := Aside0.mk (Kd.R_lower ho0 (below_size bel)); have n1_ := Aside0.mk (below_step bel hb); clear HB hx0 hx1; have HO := n0_; have HB := n1_; clear n0_ n1_ hb ho0; have hx0 := (HB.out.cell (World.block_lt_of_cell? w _ HX0.out)).trans HX0.out; have hx1 := (HB.out.cell (World.block_lt_of_cell? w _ HX1.out)).trans HX1.out))
  refine wp_loop_rounds 3 ?_
  rw [rounds_succ]
  go_wp2_with (first | ((with_reducible refine gate_builtin (b := .append) (xs := #[.tmp 31, .tmp 32]) rfl ?_); at_builtin; refine Kd.R_append_rows k72 (w0 := w) w.heap.size rfl (.tmp 31) (.tmp 32) 22 72 (.agg #[(.string ⟨#[]⟩), (.string ⟨#[]⟩)]) 32 rfl Tryz.underlying22 info72' rfl (by decide) (by omega) v ([] : List S72) l0 A0 l0.length c0 (fun _ => True) (fun _ => False) rfl rfl ?aO ?aR (fun _ _ h => h) (fun _ h => h.elim) (fun _ _ => trivial) ?aB ?aS ?aL ?_; (case aO => exact skr); (case aR => exact rdc); (case aB => exact bel); (case aS => exact (below_size bel)); (case aL => have := HN.out; (try simp only [List.length_nil]); omega); intro v5 w5 ho hb hg hat; (try rw [List.nil_append] at ho); have n0 := Aside0.mk ho; have n1 := Aside0.mk hb; clear HB HO ho hb hg hat hx0 hx1; have HB := n1; have HO := n0; clear n0 n1; have hx0 := (HB.out.cell (World.block_lt_of_cell? w _ HX0.out)).trans HX0.out; have hx1 := (HB.out.cell (World.block_lt_of_cell? w _ HX1.out)).trans HX1.out))
  rw [rounds_succ]
  go_wp2_with (first | ((with_reducible refine gate_builtin (b := .append) (xs := #[.tmp 31, .tmp 32]) rfl ?_); at_builtin; refine Kd.R_append_rows k72 (w0 := w) w.heap.size rfl (.tmp 31) (.tmp 32) 22 72 (.agg #[(.string ⟨#[]⟩), (.string ⟨#[]⟩)]) 32 rfl Tryz.underlying22 info72' rfl (by decide) (by omega) v5 l0 l1 A1 l1.length c1 (fun _ => True) (fun _ => False) rfl rfl ?aO ?aR (fun _ _ h => h) (fun _ h => h.elim) (fun _ _ => trivial) ?aB ?aS ?aL ?_; (case aO => exact skr); (case aR => exact rdc); (case aB => exact bel); (case aS => exact (below_size bel)); (case aL => have := HN.out; (try simp only [List.length_nil]); omega); intro v6 w6 ho hb hg hat; (try rw [List.nil_append] at ho); have n0 := Aside0.mk ho; have n1 := Aside0.mk hb; clear HB HO ho hb hg hat hx0 hx1; have HB := n1; have HO := n0; clear n0 n1; have hx0 := (HB.out.cell (World.block_lt_of_cell? w _ HX0.out)).trans HX0.out; have hx1 := (HB.out.cell (World.block_lt_of_cell? w _ HX1.out)).trans HX1.out))
  rw [rounds_succ]
  go_wp2
  go_ret
  exact ⟨_, rfl, skr, bel⟩
end Go.Proofs.YtolenfcngomdfaaGreatDoor.V
namespace Go.Proofs.YtolenfcngomdfaaGreatDoor.V
open Go.RowKit Go.Proofs.YtolenfcngomdfaaGreatDoorW.PrintWords Go.Proofs.YtolenfcngomdfaaGreatDoorW.PrintLast Go.Proofs.YtolenfcngomdfaaGreatDoorW.PrintMore
set_option linter.unusedVariables false
set_option linter.unusedSimpArgs false
/-- Too great a count. -/
def big (n : Int) : Bool := decide (1000000 < n)
set_option maxHeartbeats 1000000 in
theorem pred110 (r : Int) (w : World) : Calls Tryz.prog 110 #[.int .i64 r] w fun e w' => e = .returned (.bool (big r)) ∧ Drawn0 w w' := by
  obtain ⟨b, hb⟩ : ∃ b : Bool, decide (1000000 < r) = b := ⟨_, rfl⟩
  unfold big
  rw [hb]
  go_enter Tryz.func110, Tryz.ntmps110
  go_wp2
  go_ret
  exact ⟨rs, drw⟩
theorem any_hit {p : Int → Bool} {l : List Int} {k : Nat} (hk : k < l.length) (h : p (rd l (k : Int)) = true) : l.any p = true := by
  rw [List.any_eq_true]
  refine ⟨l[k], List.getElem_mem hk, ?_⟩
  have : rd l (k : Int) = l[k] := by simp [rd, List.getD_eq_getElem?_getD, hk]
  rw [← this]; exact h
theorem any_miss {p : Int → Bool} {l : List Int} (h : ∀ j : Nat, j < l.length → p (rd l (j : Int)) = false) : l.any p = false := by
  rw [List.any_eq_false]
  intro x hx
  obtain ⟨j, hj, rfl⟩ := List.getElem_of_mem hx
  have := h j hj
  have e : rd l (j : Int) = l[j] := by simp [rd, List.getD_eq_getElem?_getD, hj]
  rw [e] at this
  simp [this]
set_option maxHeartbeats 4000000 in
theorem index192 (A0 : Option Addr) (c0 : Nat) (l0 : List Int) (w : World) (hr0 : Kd.C (Kd.int .i64) w A0 l0.length l0) (hbig : l0.length ≤ 9223372036854775807) :
    Calls Tryz.prog 192 #[.slice A0 l0.length c0, .func (.func 110) #[] #[]] w fun e w' => (∃ k : Int, e = .returned (.int .i64 k) ∧ decide (0 ≤ k) = l0.any big) ∧ Drawn0 w w' := by
  have HR0 := Aside0.mk hr0
  have HP := Aside0.mk (fun (r : Int) (m : Nat) => pred110 r (w.drewN m))
  have HBIG := Aside0.mk hbig
  clear hr0
  have eg : ∀ args w, (callFunc 110 args).run Tryz.prog w = .ok (.enter 110 args) w := enters_ Tryz.func110 (by kernel_rfl) rfl
  go_enter Tryz.func192, Tryz.ntmps192
  go_wp2
  go_loopg [5, 8] l0.length (fun gg _ s8 wr => ∃ kk : Nat, kk ≤ l0.length ∧ l0.length - kk ≤ gg ∧ s8 = .int .i64 kk ∧ Aside0 (Drawn0 w wr) ∧ Aside0 (∀ j : Nat, j < kk → big (rd l0 (j : Int)) = false))
  case atStart => exact ⟨0, Nat.zero_le _, by omega, rfl, ⟨drw⟩, ⟨fun j hj => absurd hj (Nat.not_lt_zero _)⟩⟩
  case round =>
    obtain ⟨kk, hkk, hg, rfl, BW, A⟩ := hrel
    obtain ⟨m, hm⟩ := BW.out.out
    by_cases hlt : kk < l0.length
    · have hltz : (kk : Int) < (l0.length : Int) := by omega
      have p1 : 0 ≤ (kk : Int) := by omega
      obtain ⟨ad, e0, hx⟩ := Kd.at_int HR0.out (kk : Int) p1 hltz
      cases e0
      rw [Int.toNat_natCast] at hx
      have hcall := HP.out (rd l0 (kk : Int)) m
      rw [← hm] at hcall
      replace hx : wr.cell? (ad.add kk) = some (Value.int IntKind.i64 (rd l0 (kk : Int))) := by rw [hm]; exact hx
      have hh := any_hit (p := big) hlt
      generalize hy : rd l0 (kk : Int) = y at hx hcall hh
      have B := Aside0.mk hy
      clear hy
      have hh' := Aside0.mk hh
      clear hh hm
      cases hq : big y with
      | true =>
        rw [hq] at hcall
        go_wp2_with (go_at_call 110; refine hcall.mono ?_; rintro e w' ⟨rfl, ⟨nd, rfl⟩⟩)
        go_ret
        refine ⟨⟨_, rfl, ?_⟩, ?_⟩
        · rw [hh'.out hq]; exact decide_eq_true (by omega)
        · exact BW.out.step _
      | false =>
        rw [hq] at hcall
        go_wp2_with (go_at_call 110; refine hcall.mono ?_; rintro e w' ⟨rfl, ⟨nd, rfl⟩⟩)
        go_roundg (l0.length - (kk + 1))
        case measure => omega
        case rel =>
          refine ⟨kk + 1, by omega, by omega, by go_num, ⟨BW.out.step _⟩, ⟨fun j hj => ?_⟩⟩
          by_cases e : j = kk
          · subst e
            rw [B.out]; exact hq
          · exact A.out j (by omega)
    · have hltz : ¬ (kk : Int) < (l0.length : Int) := by omega
      have hk : kk = l0.length := by omega
      clear hm
      go_wp2
      go_ret
      refine ⟨⟨_, rfl, ?_⟩, BW.out⟩
      rw [any_miss (fun j hj => A.out j (by omega))]
      rfl
set_option maxHeartbeats 1000000 in
theorem contains109 (A0 : Option Addr) (c0 : Nat) (l0 : List Int) (w : World) (hr0 : Kd.C (Kd.int .i64) w A0 l0.length l0) (hbig : l0.length ≤ 9223372036854775807) :
    Calls Tryz.prog 109 #[.slice A0 l0.length c0, .func (.func 110) #[] #[]] w fun e w' => e = .returned (.bool (l0.any big)) ∧ Drawn0 w w' := by
  have hcall := index192 A0 c0 l0 w hr0 hbig
  clear hr0 hbig
  generalize l0.any big = r at hcall ⊢
  go_enter Tryz.func109, Tryz.ntmps109
  go_wp2_with (go_at_call 192; refine hcall.mono ?_; rintro e w' ⟨⟨k, rfl, hk⟩, ⟨nd, rfl⟩⟩)
  go_ret
  exact ⟨by first | rfl | (rw [hk]; rfl), drw⟩
def tally_large.f (l0_0 : List ByteArray) (l0_1 : List Int) : Option Bool := if l0_1.length ≤ 9223372036854775807 then some (decide ((2000 : Int) < (l0_0.length : Int)) || l0_1.any big) else none
set_option maxHeartbeats 8000000 in
set_option maxRecDepth 100000 in
theorem tally_large.calls (A0_0 : Option Addr) (c0_0 : Nat) (l0_0 : List ByteArray) (A0_1 : Option Addr) (c0_1 : Nat) (l0_1 : List Int) (r : Bool) (w : World) (hr0_0 : Kd.C Kd.string w A0_0 l0_0.length l0_0) (hc0_0 : l0_0.length ≤ c0_0) (hr0_1 : Kd.C (Kd.int .i64) w A0_1 l0_1.length l0_1) (hc0_1 : l0_1.length ≤ c0_1) (h : tally_large.f l0_0 l0_1 = some r) :
    Calls Tryz.prog 49 #[.agg #[.slice A0_0 l0_0.length c0_0, .slice A0_1 l0_1.length c0_1]] w fun e w' => e = .returned (.bool r) ∧ Below w.heap.size w w' := by
  have hu26 := Tryz.underlying26
  unfold tally_large.f at h
  by_cases hl : l0_1.length ≤ 9223372036854775807
  · rw [if_pos hl] at h
    have HR0_1 := Aside0.mk hr0_1
    have HB := Aside0.mk (Below.refl w.heap.size w)
    have HL := Aside0.mk hl
    have H := Aside0.mk (Option.some.inj h)
    clear hr0_0 hr0_1 h hl
    have hcall := Aside0.mk (fun (W : World) (hW : Kd.C (Kd.int .i64) W A0_1 l0_1.length l0_1) => contains109 A0_1 c0_1 l0_1 W hW HL.out)
    cases hb : decide ((2000 : Int) < (l0_0.length : Int)) with
    | true =>
      rw [hb] at H
      go_enter Tryz.func49, Tryz.ntmps49
      go_wp2_with (first | ((with_reducible refine gate_dst (N := 1) rfl ?_); refine box_event ?hg (N := 1) ?hd (cs := #[.slice A0_0 l0_0.length c0_0, .slice A0_1 l0_1.length c0_1]) (t := 26) ?hr ?_; (case hd => rfl); (case hg => rfl); (case hr => first | (go_simp; done) | (go_simp; rfl)); intro g1 hg w4 hbox hb2; have n0_ := Aside0.mk (below_step bel hb2); have n1_ := Aside0.mk hbox; clear HB; have HB := n0_; have BK := n1_; clear n0_ n1_ hb2 hbox hg; have hcz0 : w4.cell? ⟨g1, 0, none⟩ = some (.slice A0_0 l0_0.length c0_0) := (blk_cell BK.out 0).trans rfl; have hcz1 : w4.cell? ⟨g1, 1, none⟩ = some (.slice A0_1 l0_1.length c0_1) := (blk_cell BK.out 1).trans rfl))
      go_ret
      exact ⟨by rw [← H.out]; rfl, bel⟩
    | false =>
      rw [hb, Bool.false_or] at H
      go_enter Tryz.func49, Tryz.ntmps49
      go_wp2_with (first | ((with_reducible refine gate_dst (N := 1) rfl ?_); refine box_event ?hg (N := 1) ?hd (cs := #[.slice A0_0 l0_0.length c0_0, .slice A0_1 l0_1.length c0_1]) (t := 26) ?hr ?_; (case hd => rfl); (case hg => rfl); (case hr => first | (go_simp; done) | (go_simp; rfl)); intro g1 hg w4 hbox hb2; have n0_ := Aside0.mk (below_step bel hb2); have n1_ := Aside0.mk hbox; clear HB; have HB := n0_; have BK := n1_; clear n0_ n1_ hb2 hbox hg; have hcz0 : w4.cell? ⟨g1, 0, none⟩ = some (.slice A0_0 l0_0.length c0_0) := (blk_cell BK.out 0).trans rfl; have hcz1 : w4.cell? ⟨g1, 1, none⟩ = some (.slice A0_1 l0_1.length c0_1) := (blk_cell BK.out 1).trans rfl) | (go_at_call 109; refine (hcall.out _ rdc).mono ?_; rintro e w' ⟨rfl, ⟨nd, rfl⟩⟩))
      go_ret
      exact ⟨by rw [← H.out]; rfl, bel⟩
  · rw [if_neg hl] at h
    cases h
end Go.Proofs.YtolenfcngomdfaaGreatDoor.V
