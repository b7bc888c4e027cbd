/- A part of the proof of the tied card of UnknownForced (chapter 39): the law returns true whatever the input. -/
import Derived.Test.YtpgmoinalongnaaGreatDoorU
import Derived.Test.YtpgmoinalongnaaGreatDoorK
set_option linter.unusedVariables false
set_option linter.unusedSimpArgs false
namespace Go.Proofs.YtpgmoinalongnaaGreatDoor.U
open Go.RowKit Go.Proofs.YtpgmoinalongnaaGreatDoorW.PrintWords Go.Proofs.YtpgmoinalongnaaGreatDoorW.PrintLast Go.Proofs.YtpgmoinalongnaaGreatDoorW.PrintMore
set_option linter.unusedVariables false
set_option linter.unusedSimpArgs false
/-- Whether one row's bit differs from the value. -/
def bitNe (i v r : Int) : Bool := Go.bits .and .i64 (shr .i64 r i) 1 != v
set_option maxHeartbeats 1000000 in
theorem pred27 (r i v : Int) (a b : Nat) (w : World) (ha : w.cell? ⟨a, 0, none⟩ = some (.int .i64 i)) (hb : w.cell? ⟨b, 0, none⟩ = some (.int .i64 v)) (hi : 0 ≤ i) :
    Calls Tryz.prog 27 #[.int .i64 r, .pointer (some ⟨a, 0, none⟩), .pointer (some ⟨b, 0, none⟩)] w fun e w' => e = .returned (.bool (bitNe i v r)) ∧ Drawn0 w w' := by
  unfold bitNe
  have hi1 := eq_true hi
  have hi2 : decide (0 ≤ i) = true := decide_eq_true hi
  obtain ⟨s, hs⟩ : ∃ s : Int, shr .i64 r i = s := ⟨_, rfl⟩
  rw [hs]
  have hs1 : r / 2 ^ min i.toNat 64 = s := hs
  have hs2 : i ≤ 64 → r / 2 ^ i.toNat = s := shr_small hs
  clear hi hs
  go_enter Tryz.func27, Tryz.ntmps27
  go_wp2
  go_region
  go_wp2
  go_ret
  exact ⟨rfl, by repeat (first | exact Drawn0.refl _ | apply Drawn0.step)⟩
theorem any_hit {p : Int → Bool} {l : List Int} {k : Nat} (hk : k < l.length) (h : p (rd l (k : Int)) = true) : l.any p = true := by
  rw [List.any_eq_true]
  refine ⟨l[k], List.getElem_mem hk, ?_⟩
  have : rd l (k : Int) = l[k] := by simp [rd, List.getD_eq_getElem?_getD, hk]
  rw [← this]; exact h
theorem any_miss {p : Int → Bool} {l : List Int} (h : ∀ j : Nat, j < l.length → p (rd l (j : Int)) = false) : l.any p = false := by
  rw [List.any_eq_false]
  intro x hx
  obtain ⟨j, hj, rfl⟩ := List.getElem_of_mem hx
  have := h j hj
  have e : rd l (j : Int) = l[j] := by simp [rd, List.getD_eq_getElem?_getD, hj]
  rw [e] at this
  simp [this]
set_option maxHeartbeats 4000000 in
theorem index59 (A0 : Option Addr) (c0 : Nat) (l0 : List Int) (i v : Int) (a b : Nat) (w : World) (hr0 : Kd.C (Kd.int .i64) w A0 l0.length l0) (hc0 : l0.length ≤ c0) (hbig : l0.length ≤ 9223372036854775807)
    (ha : w.cell? ⟨a, 0, none⟩ = some (.int .i64 i)) (hb : w.cell? ⟨b, 0, none⟩ = some (.int .i64 v)) (hi : 0 ≤ i) :
    Calls Tryz.prog 59 #[.slice A0 l0.length c0, .func (.func 27) #[] #[.pointer (some ⟨a, 0, none⟩), .pointer (some ⟨b, 0, none⟩)]] w fun e w' => (∃ k : Int, e = .returned (.int .i64 k) ∧ decide (0 ≤ k) = l0.any (bitNe i v)) ∧ Drawn0 w w' := by
  have HR0 := Aside0.mk hr0
  have HP := Aside0.mk (fun (r : Int) (m : Nat) => pred27 r i v a b (w.drewN m) ha hb hi)
  have HBIG := Aside0.mk hbig
  clear hr0 ha hb hi hc0
  have eg : ∀ args w, (callFunc 27 args).run Tryz.prog w = .ok (.enter 27 args) w := enters_ Tryz.func27 (by kernel_rfl) rfl
  go_enter Tryz.func59, Tryz.ntmps59
  go_wp2
  go_loopg [5, 8] l0.length (fun gg _ s8 wr => ∃ kk : Nat, kk ≤ l0.length ∧ l0.length - kk ≤ gg ∧ s8 = .int .i64 kk ∧ Aside0 (Drawn0 w wr) ∧ Aside0 (∀ j : Nat, j < kk → bitNe i v (rd l0 (j : Int)) = false))
  case atStart => exact ⟨0, Nat.zero_le _, by omega, rfl, ⟨by repeat (first | exact Drawn0.refl _ | apply Drawn0.step)⟩, ⟨fun j hj => absurd hj (Nat.not_lt_zero _)⟩⟩
  case round =>
    obtain ⟨kk, hkk, hg, rfl, BW, A⟩ := hrel
    obtain ⟨m, hm⟩ := BW.out.out
    by_cases hlt : kk < l0.length
    · have hltz : (kk : Int) < (l0.length : Int) := by omega
      have p1 : 0 ≤ (kk : Int) := by omega
      obtain ⟨ad, e0, hx⟩ := Kd.at_int HR0.out (kk : Int) p1 hltz
      cases e0
      rw [Int.toNat_natCast] at hx
      have hcall := HP.out (rd l0 (kk : Int)) m
      rw [← hm] at hcall
      replace hx : wr.cell? (ad.add kk) = some (Value.int IntKind.i64 (rd l0 (kk : Int))) := by rw [hm]; exact hx
      have hh := any_hit (p := bitNe i v) hlt
      generalize hy : rd l0 (kk : Int) = y at hx hcall hh
      have B := Aside0.mk hy
      clear hy
      have hh' := Aside0.mk hh
      clear hh hm
      cases hq : bitNe i v y with
      | true =>
        rw [hq] at hcall
        go_wp2_with (go_at_call 27; refine hcall.mono ?_; rintro e w' ⟨rfl, ⟨nd, rfl⟩⟩)
        go_ret
        refine ⟨⟨_, rfl, ?_⟩, ?_⟩
        · rw [hh'.out hq]; exact decide_eq_true (by omega)
        · exact BW.out.step _
      | false =>
        rw [hq] at hcall
        go_wp2_with (go_at_call 27; refine hcall.mono ?_; rintro e w' ⟨rfl, ⟨nd, rfl⟩⟩)
        go_roundg (l0.length - (kk + 1))
        case measure => omega
        case rel =>
          refine ⟨kk + 1, by omega, by omega, by go_num, ⟨BW.out.step _⟩, ⟨fun j hj => ?_⟩⟩
          by_cases e : j = kk
          · subst e
            rw [B.out]; exact hq
          · exact A.out j (by omega)
    · have hltz : ¬ (kk : Int) < (l0.length : Int) := by omega
      have hk : kk = l0.length := by omega
      clear hm
      go_wp2
      go_ret
      refine ⟨⟨_, rfl, ?_⟩, BW.out⟩
      rw [any_miss (fun j hj => A.out j (by omega))]
      rfl
set_option maxHeartbeats 1000000 in
theorem contains26 (A0 : Option Addr) (c0 : Nat) (l0 : List Int) (i v : Int) (a b : Nat) (w : World) (hr0 : Kd.C (Kd.int .i64) w A0 l0.length l0) (hc0 : l0.length ≤ c0) (hbig : l0.length ≤ 9223372036854775807)
    (ha : w.cell? ⟨a, 0, none⟩ = some (.int .i64 i)) (hb : w.cell? ⟨b, 0, none⟩ = some (.int .i64 v)) (hi : 0 ≤ i) :
    Calls Tryz.prog 26 #[.slice A0 l0.length c0, .func (.func 27) #[] #[.pointer (some ⟨a, 0, none⟩), .pointer (some ⟨b, 0, none⟩)]] w fun e w' => e = .returned (.bool (l0.any (bitNe i v))) ∧ Drawn0 w w' := by
  have hcall := index59 A0 c0 l0 i v a b w hr0 hc0 hbig ha hb hi
  clear hr0 hc0 hbig ha hb hi
  generalize l0.any (bitNe i v) = r at hcall ⊢
  go_enter Tryz.func26, Tryz.ntmps26
  go_wp2_with (go_at_call 59; refine hcall.mono ?_; rintro e w' ⟨⟨k, rfl, hk⟩, ⟨nd, rfl⟩⟩)
  go_ret
  exact ⟨by first | rfl | (rw [hk]; rfl), by repeat (first | exact Drawn0.refl _ | apply Drawn0.step)⟩
end Go.Proofs.YtpgmoinalongnaaGreatDoor.U
namespace Go.Proofs.YtpgmoinalongnaaGreatDoor.U
open Go.RowKit Go.Proofs.YtpgmoinalongnaaGreatDoorW.PrintWords Go.Proofs.YtpgmoinalongnaaGreatDoorW.PrintLast Go.Proofs.YtpgmoinalongnaaGreatDoorW.PrintMore
set_option linter.unusedVariables false
set_option linter.unusedSimpArgs false
theorem info3 : (Tryz.prog.info? 3).map (fun i => (i.zero, i.size, i.bytes)) = some (some (.int .i64 0), 1, 8) := by kernel_rfl
theorem nilS {P : Program} (w : World) {t e : TypeId} (a : Option Addr) (n c : Nat) (ht : P.underlying t = some (.slice e)) :
    (binOp .eql t (.slice a n c) (.slice none 0 0)).run P w = .ok (.bool a.isNone) w := by
  have h : ∀ d : Nat, (Op.equalIn (d + 1) t (.slice a n c) (.slice none 0 0)).run P w = .ok a.isNone w := fun d => by
    cases a <;> simp [Op.equalIn, run_underlying ht]
  simp only [binOp]
  simp [Op.equal, Op.maxDepth, h 9999]
set_option maxHeartbeats 8000000 in
set_option maxRecDepth 100000 in
theorem clone8 (A0 : Option Addr) (c0 : Nat) (l0 : List Int) (w : World) (hr0 : Kd.C (Kd.int .i64) w A0 l0.length l0) (hc0 : l0.length ≤ c0) (hbig : l0.length ≤ 2000) :
    Calls Tryz.prog 8 #[.slice A0 l0.length c0] w fun e w' => ∃ v0_ : Value, e = .returned v0_ ∧ Kd.R (Kd.int .i64) 3 w' w.heap.size (fun _ => True) v0_ l0 ∧ Below w.heap.size w w' := by
  have HR0 := Aside0.mk hr0
  have HC0 := Aside0.mk hc0
  have HBIG := Aside0.mk hbig
  clear hr0 hc0 hbig
  have HB := Aside0.mk (Below.refl w.heap.size w)
  have hnil : ∀ W, (binOp .eql 22 (.slice A0 l0.length c0) (.slice none 0 0)).run Tryz.prog W = .ok (.bool A0.isNone) W := fun W => nilS W _ _ _ Tryz.underlying22
  cases A0 with
  | none =>
    have hn : l0.length = 0 := by
      rcases Nat.eq_zero_or_pos l0.length with h | h
      · exact h
      · obtain ⟨ad, e0, hx⟩ := Kd.at_int HR0.out (0 : Int) (by omega) (by omega)
        cases e0
    have HN := Aside0.mk hn
    clear hn
    go_enter Tryz.func8, Tryz.ntmps8
    go_wp2
    go_ret
    have hl : l0 = [] := List.length_eq_zero_iff.1 HN.out
    subst hl
    exact ⟨_, rfl, Kd.R_nil _ _ _ _ _, by repeat (first | (with_reducible first | exact HB.out | apply below_alloc | apply pw_below_drewN | apply below_drew1) | exact HB.out)⟩
  | some ad =>
    go_enter Tryz.func8, Tryz.ntmps8
    go_wp2_with (first | ((with_reducible refine gate_dst (N := 5) rfl ?_); refine Kd.R_lit (Kd.int .i64) (w0 := w) w.heap.size 3 ?hg (N := 5) ?hd (xs := ([] : List Int)) (inner := []) (ok := fun _ => True) (okp := fun _ => True) ?hr ?hp (fun _ hk => hk) trivial HB.out (Nat.le_refl _) (by simp) ?_; (case hd => rfl); (case hg => rfl); (case hr => first | (go_simp; done) | (go_simp; rfl)); (case hp => exact Reps.none _ _); intro v5 w5 ho hb hg_ hnew_; have n0 := Aside0.mk ho; have n1 := Aside0.mk (Kd.C_below HR0.out hb); clear HR0; have n2 := Aside0.mk hb; clear HB ho hb hg_ hnew_; have HB := n2; have HO := n0; have HR0 := n1; clear n0 n1 n2) | ((with_reducible refine gate_builtin (b := .append) (xs := #[.tmp 5, .tmp 6]) rfl ?_); at_builtin; refine Kd.R_append_row (Value.int .i64) (0 : Int) (h1 := fun _ => rfl) (w0 := w) w.heap.size rfl (.tmp 5) (.tmp 6) 22 3 (.int .i64 0) 8 rfl Tryz.underlying22 info3 rfl (Nat.succ_pos 7) v5 ([] : List Int) l0 (some ad) l0.length c0 (fun _ => True) rfl rfl (fun _ _ => trivial) ?aO ?aR ?aB ?aS ?aL ?_; (case aO => exact (by (with_reducible repeat (first | apply Kd.R_alloc | apply Kd.R_drewN | apply Kd.R_drew)); exact HO.out)); (case aR => repeat (first | exact HR0.out | (with_reducible refine Kd.C_alloc ?_ _) | (with_reducible refine Kd.C_drewN ?_ _) | (with_reducible refine Kd.C_drew ?_))); (case aB => repeat (first | (with_reducible first | exact HB.out | apply below_alloc | apply pw_below_drewN | apply below_drew1) | exact HB.out)); (case aS => exact (below_size (by repeat (first | (with_reducible first | exact HB.out | apply below_alloc | apply pw_below_drewN | apply below_drew1) | exact HB.out)))); (case aL => have := HBIG.out; simp only [List.length_nil]; omega); intro v7 w7 ho hb hg hat; rw [List.nil_append] at ho; have n0 := Aside0.mk ho; have n1 := Aside0.mk hb; clear HB HO ho hb hg hat; have HB := n1; have HO := n0; clear n0 n1))
    go_ret
    exact ⟨_, rfl, by (with_reducible repeat (first | apply Kd.R_alloc | apply Kd.R_drewN | apply Kd.R_drew)); exact HO.out, by repeat (first | (with_reducible first | exact HB.out | apply below_alloc | apply pw_below_drewN | apply below_drew1) | exact HB.out)⟩
def slices_Clone_int_int.f (l : List Int) : Option (List Int) := if l.length ≤ 2000 then some l else none
theorem slices_Clone_int_int.calls (A0 : Option Addr) (c0 : Nat) (l0 r : List Int) (w : World) (hr0 : Kd.C (Kd.int .i64) w A0 l0.length l0) (hc0 : l0.length ≤ c0) (h : slices_Clone_int_int.f l0 = some r) :
    Calls Tryz.prog 8 #[.slice A0 l0.length c0] w fun e w' => ∃ v0_ : Value, e = .returned v0_ ∧ Kd.R (Kd.int .i64) 3 w' w.heap.size (fun _ => True) v0_ r ∧ Below w.heap.size w w' := by
  unfold slices_Clone_int_int.f at h
  by_cases hl : l0.length ≤ 2000
  · rw [if_pos hl] at h
    cases h
    exact clone8 A0 c0 l0 w hr0 hc0 hl
  · rw [if_neg hl] at h
    cases h
end Go.Proofs.YtpgmoinalongnaaGreatDoor.U
namespace Go.Proofs.YtpgmoinalongnaaGreatDoor.U
open Go.RowKit Go.Proofs.YtpgmoinalongnaaGreatDoorW.PrintWords Go.Proofs.YtpgmoinalongnaaGreatDoorW.PrintLast Go.Proofs.YtpgmoinalongnaaGreatDoorW.PrintMore
set_option linter.unusedVariables false
set_option linter.unusedSimpArgs false
theorem cell_al {w : World} {o : Obj} {a : Addr} {v : Value} (h : w.cell? a = some v) : (w.alloc o).cell? a = some v := ((below_alloc (Below.refl _ _) o).cell (World.block_lt_of_cell? w _ h)).trans h
def slices_ContainsFunc_int_int.f (l : List Int) (i v : Int) : Option Bool := if 0 ≤ i ∧ l.length ≤ 9223372036854775807 then some (l.any (bitNe i v)) else none
theorem slices_ContainsFunc_int_int.calls (A0 : Option Addr) (c0 : Nat) (l0 : List Int) (i v : Int) (r : Bool) (a b : Nat) (w : World) (hr0 : Kd.C (Kd.int .i64) w A0 l0.length l0) (hc0 : l0.length ≤ c0)
    (ha : w.cell? ⟨a, 0, none⟩ = some (.int .i64 i)) (hb : w.cell? ⟨b, 0, none⟩ = some (.int .i64 v)) (h : slices_ContainsFunc_int_int.f l0 i v = some r) :
    Calls Tryz.prog 26 #[.slice A0 l0.length c0, .func (.func 27) #[] #[.pointer (some ⟨a, 0, none⟩), .pointer (some ⟨b, 0, none⟩)]] w fun e w' => e = .returned (.bool r) ∧ Drawn0 w w' := by
  unfold slices_ContainsFunc_int_int.f at h
  by_cases hi : 0 ≤ i ∧ l0.length ≤ 9223372036854775807
  · rw [if_pos hi] at h
    cases h
    exact contains26 A0 c0 l0 i v a b w hr0 hc0 hi.2 ha hb hi.1
  · rw [if_neg hi] at h
    cases h
def unknown_Forced.l0 : Nat → List (S34) → List Int → Int → Int → List Int → List Int → Option ((List (S34)) × Int)
  | 0, _, _, _, _, _, _ => none
  | k + 1, x5, x19, x20, x21, x108000, x108001 => if x21 < x20 then (if 0 ≤ x21 then (if x21 < (x19.length : Int) then (if 0 < (x108001.length : Int) then ((slices_ContainsFunc_int_int.f x108001 x21 (Go.bits .and .i64 (shr .i64 (rd x108001 0) x21) 1)).bind fun t111 => (if t111 = true then (unknown_Forced.l0 k x5 x19 x20 (wrap64 (x21 + 1)) x108000 x108001) else (if x5.length < 8796093022208 then (unknown_Forced.l0 k (x5 ++ [(⟨rd x19 x21, Go.bits .and .i64 (shr .i64 (rd x108001 0) x21) 1⟩ : S34)]) x19 x20 (wrap64 (x21 + 1)) x108000 x108001) else (none)))) else (none)) else (none)) else (none)) else (some (x5, 0))
def unknown_Forced.f (k : Nat) (l0_0 : List Int) (l0_1 : List Int) : Option ((List (S34)) × Int) := (table_Valid.f k l0_0 l0_1).bind fun t108 => (if t108 = 0 then (if (l0_1.length : Int) = 0 then (some (([] : List (S34)), 10)) else (unknown_Forced.l0 k ([] : List (S34)) l0_0 (l0_0.length : Int) 0 l0_0 l0_1)) else (some (([] : List (S34)), t108)))
set_option maxHeartbeats 8000000 in
set_option maxRecDepth 100000 in
theorem unknown_Forced.calls (k : Nat) (A0_0 : Option Addr) (c0_0 : Nat) (l0_0 : List Int) (A0_1 : Option Addr) (c0_1 : Nat) (l0_1 : List Int) (r1 : List (S34)) (r2 : Int) (w : World) (hr0_0 : Kd.C (Kd.int .i64) w A0_0 l0_0.length l0_0) (hc0_0 : l0_0.length ≤ c0_0) (hr0_1 : Kd.C (Kd.int .i64) w A0_1 l0_1.length l0_1) (hc0_1 : l0_1.length ≤ c0_1) (h : unknown_Forced.f k l0_0 l0_1 = some (r1, r2)) :
    Calls Tryz.prog 7 #[.agg #[.slice A0_0 l0_0.length c0_0, .slice A0_1 l0_1.length c0_1]] w fun e w' => ∃ v0_ : Value, e = .returned (.tuple #[v0_, .int .i64 r2]) ∧ Kd.R k34 34 w' w.heap.size (fun _ => True) v0_ r1 ∧ Below w.heap.size w w' := by
  have hu24 := Tryz.underlying24
  have hu34 := Tryz.underlying34
  have HR0_0 := Aside0.mk hr0_0
  have HC0_0 := Aside0.mk hc0_0
  clear hr0_0 hc0_0
  have HR0_1 := Aside0.mk hr0_1
  have HC0_1 := Aside0.mk hc0_1
  clear hr0_1 hc0_1
  have HB := Aside0.mk (Below.refl w.heap.size w)
  have H : ((table_Valid.f k l0_0 l0_1).bind fun t108 => (if t108 = 0 then (if (l0_1.length : Int) = 0 then (some (([] : List (S34)), 10)) else (unknown_Forced.l0 k ([] : List (S34)) l0_0 (l0_0.length : Int) 0 l0_0 l0_1)) else (some (([] : List (S34)), t108)))) = some (r1, r2) := h
  clear h
  replace H := Option.bind_eq_some_iff.mp H
  obtain ⟨t108, A20, H⟩ := H
  replace H : (if t108 = 0 then (if (l0_1.length : Int) = 0 then (some (([] : List (S34)), 10)) else (unknown_Forced.l0 k ([] : List (S34)) l0_0 (l0_0.length : Int) 0 l0_0 l0_1)) else (some (([] : List (S34)), t108))) = some (r1, r2) := H
  have A2 := Aside0.mk A20
  clear A20
  by_cases c3 : t108 = 0
  · rw [if_pos c3] at H
    have c3b0 : (t108 == 0) = true := beq_iff_eq.mpr c3
    have c3b1 : (t108 != 0) = false := bne_eq_false_iff_eq.mpr c3
    clear c3
    by_cases c4 : (l0_1.length : Int) = 0
    · rw [if_pos c4] at H
      have c4b0 : ((l0_1.length : Int) == 0) = true := beq_iff_eq.mpr c4
      have c4b1 : ((l0_1.length : Int) != 0) = false := bne_eq_false_iff_eq.mpr c4
      clear c4
      simp only [Option.some.injEq, Prod.mk.injEq] at H
      obtain ⟨rfl, rfl⟩ := H
      go_enter Tryz.func7, Tryz.ntmps7
      go_wp2_with (first | ((with_reducible refine gate_dst (N := 1) rfl ?_); refine box_event ?hg (N := 1) ?hd (cs := #[.slice A0_0 l0_0.length c0_0, .slice A0_1 l0_1.length c0_1]) (t := 24) ?hr ?_; (case hd => rfl); (case hg => rfl); (case hr => first | (go_simp; done) | (go_simp; rfl)); intro gb107 hg w5 hbox hb; have n0_ := Aside0.mk (below_step (by repeat (first | (with_reducible first | exact HB.out | apply below_alloc | apply pw_below_drewN | apply below_drew1) | exact HB.out)) hb); have n1_ := Aside0.mk (hbox); have n2_ := Aside0.mk ((by rw [hg]; exact (below_size (by repeat (first | (with_reducible first | exact HB.out | apply below_alloc | apply pw_below_drewN | apply below_drew1) | exact HB.out))) : w.heap.size ≤ gb107)); have n3_ := Aside0.mk ((by rw [hg]; exact (below_size (by repeat (first | (with_reducible first | exact HB.out | apply below_alloc | apply pw_below_drewN | apply below_drew1) | exact HB.out))) : w.heap.size ≤ gb107)); clear HB; have HB := n0_; have BK107 := n1_; have GW107 := n2_; have GE107 := n3_; clear n0_ n1_ n2_ n3_; clear hb hbox hg; have hcz6_0 : w5.cell? ⟨gb107, 0, none⟩ = some (.slice A0_0 l0_0.length c0_0) := (blk_cell BK107.out 0).trans rfl; have hcz6_1 : w5.cell? ⟨gb107, 1, none⟩ = some (.slice A0_1 l0_1.length c0_1) := (blk_cell BK107.out 1).trans rfl; have hfz6_0 := blk_frozen BK107.out 0; have hfz6_1 := blk_frozen BK107.out 1) | ((with_reducible refine gate_callee (f := 25) rfl ?_); refine goesL_ (some 10) rfl rfl Tryz.func25 (by kernel_rfl) rfl #[.agg #[.slice A0_0 l0_0.length c0_0, .slice A0_1 l0_1.length c0_1]] rfl (by (try simp only [List.map_toArray, List.map_cons, List.map_nil]); first | done | rfl | (simp only [List.length_drop, List.length_take]; rfl) | (simp only [decide_eq_true_eq, decide_eq_false_iff_not] at *; congr <;> (first | rfl | (refine (congrArg (Value.int .i64) ?_ : Value.int .i64 _ = Value.int .i64 _); unfold wrap64; omega) | fail)) | fail) ?_; (with_reducible refine (table_Valid.calls k _ _ l0_0 _ _ l0_1 t108 _ ?side1 ?side2 ?side3 ?side4 A2.out).mono ?_); (case side1 => repeat (first | exact (Kd.C_below HR0_0.out HB.out) | (with_reducible refine Kd.C_alloc ?_ _) | (with_reducible refine Kd.C_drewN ?_ _) | (with_reducible refine Kd.C_drew ?_))); (case side2 => exact HC0_0.out); (case side3 => repeat (first | exact (Kd.C_below HR0_1.out HB.out) | (with_reducible refine Kd.C_alloc ?_ _) | (with_reducible refine Kd.C_drewN ?_ _) | (with_reducible refine Kd.C_drew ?_))); (case side4 => exact HC0_1.out); rintro e w7 ⟨rfl, hb⟩; refine ⟨_, rfl, ?_⟩; have n0_ := Aside0.mk (blk_below (g := gb107) (o := .cells #[.slice A0_0 l0_0.length c0_0, .slice A0_1 l0_1.length c0_1] 24 (0, 0)) (by (with_reducible repeat (first | refine blk_drewN ?_ _ | refine blk_drew ?_ | refine blk_alloc ?_ _)); exact BK107.out) hb); have n1_ := Aside0.mk (below_step (by repeat (first | (with_reducible first | exact HB.out | apply below_alloc | apply pw_below_drewN | apply below_drew1 | refine below_set ?_ GE107.out) | exact HB.out)) hb); clear BK107; clear HB; have BK107 := n0_; have HB := n1_; clear n0_ n1_; (try clear hb); (try clear hb2); (try clear hk); (try clear hi); have hcz8_0 : w7.cell? ⟨gb107, 0, none⟩ = some (.slice A0_0 l0_0.length c0_0) := (blk_cell BK107.out 0).trans rfl; have hcz8_1 : w7.cell? ⟨gb107, 1, none⟩ = some (.slice A0_1 l0_1.length c0_1) := (blk_cell BK107.out 1).trans rfl; have hfz8_0 := blk_frozen BK107.out 0; have hfz8_1 := blk_frozen BK107.out 1))
      go_ret2
      exact ⟨_, by first | rfl | (simp [errW_none, errW_some] <;> rfl) | (simp [*, errW_none, errW_some] <;> rfl), by first | exact Kd.R_nil _ _ _ _ _ | exact Kd.N_nil _ _ _ _ _ | exact Kd.V_nil _ _ _ _ _ | exact Kd.Q_nil _ _ _ _ _ | exact Kd.S_nil _ _ _ _ _, by repeat (first | (with_reducible first | exact HB.out | apply below_alloc | apply pw_below_drewN | apply below_drew1 | refine below_set ?_ GE107.out) | exact HB.out)⟩
    · rw [if_neg c4] at H
      have c4b0 : ((l0_1.length : Int) == 0) = false := beq_eq_false_iff_ne.mpr c4
      have c4b1 : ((l0_1.length : Int) != 0) = true := bne_iff_ne.mpr c4
      have c4b2 : ¬ (l0_1 = []) := fun h_ => c4 (by rw [h_]; rfl)
      have H' := Aside0.mk H
      clear H
      go_enter Tryz.func7, Tryz.ntmps7
      go_wp2_with (first | ((with_reducible refine gate_dst (N := 1) rfl ?_); refine box_event ?hg (N := 1) ?hd (cs := #[.slice A0_0 l0_0.length c0_0, .slice A0_1 l0_1.length c0_1]) (t := 24) ?hr ?_; (case hd => rfl); (case hg => rfl); (case hr => first | (go_simp; done) | (go_simp; rfl)); intro gb107 hg w9 hbox hb; have n0_ := Aside0.mk (below_step (by repeat (first | (with_reducible first | exact HB.out | apply below_alloc | apply pw_below_drewN | apply below_drew1) | exact HB.out)) hb); have n1_ := Aside0.mk (hbox); have n2_ := Aside0.mk ((by rw [hg]; exact (below_size (by repeat (first | (with_reducible first | exact HB.out | apply below_alloc | apply pw_below_drewN | apply below_drew1) | exact HB.out))) : w.heap.size ≤ gb107)); have n3_ := Aside0.mk ((by rw [hg]; exact (below_size (by repeat (first | (with_reducible first | exact HB.out | apply below_alloc | apply pw_below_drewN | apply below_drew1) | exact HB.out))) : w.heap.size ≤ gb107)); clear HB; have HB := n0_; have BK107 := n1_; have GW107 := n2_; have GE107 := n3_; clear n0_ n1_ n2_ n3_; clear hb hbox hg; have hcz10_0 : w9.cell? ⟨gb107, 0, none⟩ = some (.slice A0_0 l0_0.length c0_0) := (blk_cell BK107.out 0).trans rfl; have hcz10_1 : w9.cell? ⟨gb107, 1, none⟩ = some (.slice A0_1 l0_1.length c0_1) := (blk_cell BK107.out 1).trans rfl; have hfz10_0 := blk_frozen BK107.out 0; have hfz10_1 := blk_frozen BK107.out 1) | ((with_reducible refine gate_callee (f := 25) rfl ?_); refine goesL_ (some 10) rfl rfl Tryz.func25 (by kernel_rfl) rfl #[.agg #[.slice A0_0 l0_0.length c0_0, .slice A0_1 l0_1.length c0_1]] rfl (by (try simp only [List.map_toArray, List.map_cons, List.map_nil]); first | done | rfl | (simp only [List.length_drop, List.length_take]; rfl) | (simp only [decide_eq_true_eq, decide_eq_false_iff_not] at *; congr <;> (first | rfl | (refine (congrArg (Value.int .i64) ?_ : Value.int .i64 _ = Value.int .i64 _); unfold wrap64; omega) | fail)) | fail) ?_; (with_reducible refine (table_Valid.calls k _ _ l0_0 _ _ l0_1 t108 _ ?side1 ?side2 ?side3 ?side4 A2.out).mono ?_); (case side1 => repeat (first | exact (Kd.C_below HR0_0.out HB.out) | (with_reducible refine Kd.C_alloc ?_ _) | (with_reducible refine Kd.C_drewN ?_ _) | (with_reducible refine Kd.C_drew ?_))); (case side2 => exact HC0_0.out); (case side3 => repeat (first | exact (Kd.C_below HR0_1.out HB.out) | (with_reducible refine Kd.C_alloc ?_ _) | (with_reducible refine Kd.C_drewN ?_ _) | (with_reducible refine Kd.C_drew ?_))); (case side4 => exact HC0_1.out); rintro e w11 ⟨rfl, hb⟩; refine ⟨_, rfl, ?_⟩; have n0_ := Aside0.mk (blk_below (g := gb107) (o := .cells #[.slice A0_0 l0_0.length c0_0, .slice A0_1 l0_1.length c0_1] 24 (0, 0)) (by (with_reducible repeat (first | refine blk_drewN ?_ _ | refine blk_drew ?_ | refine blk_alloc ?_ _)); exact BK107.out) hb); have n1_ := Aside0.mk (below_step (by repeat (first | (with_reducible first | exact HB.out | apply below_alloc | apply pw_below_drewN | apply below_drew1 | refine below_set ?_ GE107.out) | exact HB.out)) hb); clear BK107; clear HB; have BK107 := n0_; have HB := n1_; clear n0_ n1_; (try clear hb); (try clear hb2); (try clear hk); (try clear hi); have hcz12_0 : w11.cell? ⟨gb107, 0, none⟩ = some (.slice A0_0 l0_0.length c0_0) := (blk_cell BK107.out 0).trans rfl; have hcz12_1 : w11.cell? ⟨gb107, 1, none⟩ = some (.slice A0_1 l0_1.length c0_1) := (blk_cell BK107.out 1).trans rfl; have hfz12_0 := blk_frozen BK107.out 0; have hfz12_1 := blk_frozen BK107.out 1))
      go_loopg [5, 21] k (fun kq v5 v21 w' => ∃ (x5_1 : List (S34)) (x21_1 : Int), v21 = .int .i64 x21_1 ∧ Aside0 (unknown_Forced.l0 kq x5_1 l0_0 (l0_0.length : Int) x21_1 l0_0 l0_1 = some (r1, r2)) ∧ Aside0 (kq ≤ k) ∧ Aside0 (Kd.R k34 34 w' w.heap.size (fun _ => True) v5 x5_1) ∧ Aside0 (w'.heap[gb107]? = some (.cells #[(.slice A0_0 l0_0.length c0_0), (.slice A0_1 l0_1.length c0_1)] 24 (0, 0))) ∧ Aside0 (Below w.heap.size w w'))
      case atStart => exact ⟨(([] : List (S34))), (0), (by first | rfl | (simp; done) | (simp [*]; done)), H', ⟨Nat.le_refl _⟩, ⟨by first | exact Kd.R_nil _ _ _ _ _ | exact Kd.N_nil _ _ _ _ _ | exact Kd.V_nil _ _ _ _ _ | exact Kd.Q_nil _ _ _ _ _ | exact Kd.S_nil _ _ _ _ _⟩, ⟨by (with_reducible repeat (first | refine blk_drewN ?_ _ | refine blk_drew ?_ | refine blk_alloc ?_ _)); exact BK107.out⟩, ⟨by repeat (first | (with_reducible first | exact HB.out | apply below_alloc | apply pw_below_drewN | apply below_drew1 | refine below_set ?_ GE107.out) | exact HB.out)⟩⟩
      case round =>
        clear H'
        try clear c2
        try clear p2
        try clear c3
        try clear c3b0
        try clear c3b1
        try clear c4
        try clear c4b0
        try clear c4b1
        try clear c4b2
        try clear p6
        try clear c7
        try clear hcz10_0
        try clear hcz10_1
        try clear hcz12_0
        try clear hcz12_1
        try clear hcz6_0
        try clear hcz6_1
        try clear hcz8_0
        try clear hcz8_1
        try clear hfz10_0
        try clear hfz10_1
        try clear hfz12_0
        try clear hfz12_1
        try clear hfz6_0
        try clear hfz6_1
        try clear hfz8_0
        try clear hfz8_1
        obtain ⟨x5_1, x21_1, rfl, HA, HK1, HO_5, BK107, HB⟩ := hrel
        cases gk with
        | zero => exact absurd HA.out (by simp [unknown_Forced.l0])
        | succ k1 =>
          have H := HA.out
          clear HA
          simp only [unknown_Forced.l0] at H
          by_cases c13 : x21_1 < (l0_0.length : Int)
          · rw [if_pos c13] at H
            have c13b0 : decide (x21_1 < (l0_0.length : Int)) = true := decide_eq_true c13
            clear c13
            by_cases c14 : 0 ≤ x21_1
            · rw [if_pos c14] at H
              have c14b0 : decide (0 ≤ x21_1) = true := decide_eq_true c14
              clear c14
              by_cases c15 : x21_1 < (l0_0.length : Int)
              · rw [if_pos c15] at H
                have c15b0 : decide (x21_1 < (l0_0.length : Int)) = true := decide_eq_true c15
                clear c15
                by_cases c16 : 0 < (l0_1.length : Int)
                · rw [if_pos c16] at H
                  have c16b0 : decide (0 < (l0_1.length : Int)) = true := decide_eq_true c16
                  have c16b1 : decide (0 < l0_1.length) = true := decide_eq_true (by omega)
                  clear c16
                  have c17b0 := eq_true (of_decide_eq_true (by first | (with_reducible assumption) | assumption) : 0 ≤ x21_1)
                  obtain ⟨ji18, hji18⟩ : ∃ j_ : Int, (shr .i64 (rd l0_1 0) x21_1) = j_ := ⟨_, rfl⟩
                  replace H : ((slices_ContainsFunc_int_int.f l0_1 x21_1 (Go.bits .and .i64 (ji18) 1)).bind fun t111 => (if t111 = true then (unknown_Forced.l0 k1 x5_1 l0_0 (l0_0.length : Int) (wrap64 (x21_1 + 1)) l0_0 l0_1) else (if x5_1.length < 8796093022208 then (unknown_Forced.l0 k1 (x5_1 ++ [(⟨rd l0_0 x21_1, Go.bits .and .i64 (ji18) 1⟩ : S34)]) l0_0 (l0_0.length : Int) (wrap64 (x21_1 + 1)) l0_0 l0_1) else (none)))) = some (r1, r2) := by first | (rw [hji18] at H; exact H) | (simp only [hji18] at H ⊢; exact H)
                  have hji18_ : ((rd l0_1 0) / 2 ^ min x21_1.toNat 64) = ji18 := hji18
                  have hji18z : x21_1 ≤ 64 → ((rd l0_1 0) / 2 ^ x21_1.toNat) = ji18 := shr_small hji18
                  replace H := Option.bind_eq_some_iff.mp H
                  obtain ⟨t111, A190, H⟩ := H
                  replace H : (if t111 = true then (unknown_Forced.l0 k1 x5_1 l0_0 (l0_0.length : Int) (wrap64 (x21_1 + 1)) l0_0 l0_1) else (if x5_1.length < 8796093022208 then (unknown_Forced.l0 k1 (x5_1 ++ [(⟨rd l0_0 x21_1, Go.bits .and .i64 (ji18) 1⟩ : S34)]) l0_0 (l0_0.length : Int) (wrap64 (x21_1 + 1)) l0_0 l0_1) else (none))) = some (r1, r2) := H
                  have A19 := Aside0.mk A190
                  clear A190
                  by_cases c20 : t111 = true
                  · subst c20
                    have H1 : (unknown_Forced.l0 k1 x5_1 l0_0 (l0_0.length : Int) (wrap64 (x21_1 + 1)) l0_0 l0_1) = some (r1, r2) := by rw [if_pos rfl] at H; exact H
                    clear H
                    have H := H1
                    clear H1
                    have H' := Aside0.mk H
                    clear H
                    have p109 : 0 ≤ (x21_1 : Int) := of_decide_eq_true (by first | (with_reducible assumption) | assumption)
                    have q109 : x21_1 < (l0_0.length : Int) := of_decide_eq_true (by first | (with_reducible assumption) | assumption)
                    obtain ⟨ad109, e109, hx109_0⟩ := Kd.at_int HR0_0.out x21_1 p109 q109
                    cases e109
                    replace hx109_0 := (HB.out.cell (World.block_lt_of_cell? w _ hx109_0)).trans hx109_0
                    replace p109 := eq_true p109
                    replace q109 := eq_true q109
                    have hcz21_0 : wr.cell? ⟨gb107, 0, none⟩ = some (.slice (some ad109) l0_0.length c0_0) := (blk_cell BK107.out 0).trans rfl
                    have hcz21_1 : wr.cell? ⟨gb107, 1, none⟩ = some (.slice A0_1 l0_1.length c0_1) := (blk_cell BK107.out 1).trans rfl
                    have hfz21_0 := blk_frozen BK107.out 0
                    have hfz21_1 := blk_frozen BK107.out 1
                    have p110 : 0 ≤ (0 : Int) := (by omega)
                    have q110 : 0 < (l0_1.length : Int) := of_decide_eq_true (by first | (with_reducible assumption) | assumption)
                    obtain ⟨ad110, e110, hx110_0⟩ := Kd.at_int HR0_1.out 0 p110 q110
                    cases e110
                    have qi110 : (0 < l0_1.length) = True := eq_true (by omega)
                    (try rw [show ((0 : Int)).toNat = 0 from rfl] at hx110_0)
                    (try rw [Addr.add_zero'] at hx110_0)
                    replace hx110_0 := (HB.out.cell (World.block_lt_of_cell? w _ hx110_0)).trans hx110_0
                    replace p110 := eq_true p110
                    replace q110 := eq_true q110
                    go_upto_region 10 with (fail)
                    obtain ⟨w1, hw1⟩ : ∃ w1 : World, w1 = wr.alloc (Obj.cells #[Value.int IntKind.i64 x21_1] 3) := ⟨_, rfl⟩
                    obtain ⟨g6, hg6⟩ : ∃ g6 : Nat, g6 = wr.heap.size := ⟨_, rfl⟩
                    have m0 : Aside0 (w1.heap[gb107]? = some (.cells #[.slice (some ad109) l0_0.length c0_0, .slice (some ad110) l0_1.length c0_1] 24 (0, 0))) := ⟨by rw [hw1]; exact blk_alloc BK107.out _⟩
                    have m1 : Aside0 (w1.heap[g6]? = some (.cells #[.int .i64 x21_1] 3 (0, 0))) := ⟨by rw [hw1, hg6]; exact blk_new wr _⟩
                    have m2 : Aside0 (Below w.heap.size w w1) := ⟨by rw [hw1]; exact below_alloc HB.out _⟩
                    have m3 : Aside0 (Kd.R k34 34 w1 w.heap.size (fun _ => True) u5 x5_1) := ⟨by rw [hw1]; exact Kd.R_alloc HO_5.out _⟩
                    have m4 : w1.cell? ad110 = some (.int .i64 (rd l0_1 0)) := by rw [hw1]; exact cell_al hx110_0
                    rw [← hw1, ← hg6]
                    clear hw1 hg6 HB BK107 HO_5 hx109_0 hx110_0
                    have BK107 := m0
                    have HB := m2
                    have HO_5 := m3
                    have n1 : w1.cell? ⟨gb107, 1, none⟩ = some (.slice (some ad110) l0_1.length c0_1) := (blk_cell BK107.out 1).trans rfl
                    have n2 : w1.cell? ⟨g6, 0, none⟩ = some (.int .i64 x21_1) := (blk_cell m1.out 0).trans rfl
                    have n3 : ∀ o, (w1.alloc o).cell? ⟨gb107, 1, none⟩ = some (.slice (some ad110) l0_1.length c0_1) := fun o => cell_al n1
                    have n4 : ∀ o, (w1.alloc o).cell? ⟨g6, 0, none⟩ = some (.int .i64 x21_1) := fun o => cell_al n2
                    have n5 : ∀ o, (w1.alloc o).cell? ad110 = some (.int .i64 (rd l0_1 0)) := fun o => cell_al m4
                    clear m0 m2 m3
                    go_region
                    obtain ⟨w2, hw2⟩ : ∃ w2 : World, w2 = (w1.alloc (Obj.cells #[Value.int IntKind.i64 (Go.bits .and .i64 ji18 1)] 3)).drew := ⟨_, rfl⟩
                    obtain ⟨g8, hg8⟩ : ∃ g8 : Nat, g8 = w1.heap.size := ⟨_, rfl⟩
                    have m0 : Aside0 (w2.heap[gb107]? = some (.cells #[.slice (some ad109) l0_0.length c0_0, .slice (some ad110) l0_1.length c0_1] 24 (0, 0))) := ⟨by rw [hw2]; exact blk_drew (blk_alloc BK107.out _)⟩
                    have m5 : Aside0 (w2.heap[g6]? = some (.cells #[.int .i64 x21_1] 3 (0, 0))) := ⟨by rw [hw2]; exact blk_drew (blk_alloc m1.out _)⟩
                    have m6 : Aside0 (w2.heap[g8]? = some (.cells #[.int .i64 (Go.bits .and .i64 ji18 1)] 3 (0, 0))) := ⟨by rw [hw2, hg8]; exact blk_drew (blk_new w1 _)⟩
                    have m2 : Aside0 (Below w.heap.size w w2) := ⟨by rw [hw2]; exact below_drew (below_alloc HB.out _)⟩
                    have m3 : Aside0 (Kd.R k34 34 w2 w.heap.size (fun _ => True) u5 x5_1) := ⟨by rw [hw2]; exact Kd.R_drew (Kd.R_alloc HO_5.out _)⟩
                    rw [← hw2, ← hg8]
                    clear hw2 hg8 HB BK107 HO_5 n1 n2 n3 n4 n5 m1 m4
                    have BK107 := m0
                    have HB := m2
                    have HO_5 := m3
                    have BK6 : Aside0 (w2.cell? ⟨g6, 0, none⟩ = some (.int .i64 x21_1)) := ⟨(blk_cell m5.out 0).trans rfl⟩
                    have BK8 : Aside0 (w2.cell? ⟨g8, 0, none⟩ = some (.int .i64 (Go.bits .and .i64 ji18 1))) := ⟨(blk_cell m6.out 0).trans rfl⟩
                    have n1 : w2.cell? ⟨gb107, 1, none⟩ = some (.slice (some ad110) l0_1.length c0_1) := (blk_cell BK107.out 1).trans rfl
                    have n8 := BK8.out
                    have hmf : ∀ (fn : Fn) (first cap : Array Value) (w : World), (Instr.makeFunc fn first cap).run Tryz.prog w = .ok (.func fn first cap) w := fun _ _ _ _ => rfl
                    clear m0 m2 m3 m5 m6
                    go_wp2_with (first | ((with_reducible refine gate_callee (f := 26) rfl ?_); refine goesL_ (some 36) rfl rfl Tryz.func26 (by kernel_rfl) rfl #[.slice (some ad110) l0_1.length c0_1, .func (.func 27) #[] #[.pointer (some ⟨g6, 0, none⟩), .pointer (some ⟨g8, 0, none⟩)]] rfl (by (try simp only [List.map_toArray, List.map_cons, List.map_nil]); first | done | (simp only [hji18]; rfl) | rfl | (simp only [List.length_drop, List.length_take]; rfl) | (simp only [decide_eq_true_eq, decide_eq_false_iff_not] at *; congr <;> (first | rfl | (refine (congrArg (Value.int .i64) ?_ : Value.int .i64 _ = Value.int .i64 _); unfold wrap64; omega) | fail)) | fail) ?_; (with_reducible refine (slices_ContainsFunc_int_int.calls _ _ l0_1 x21_1 (Go.bits .and .i64 (ji18) 1) true g6 g8 _ ?side1 ?side2 ?side3 ?side4 A19.out).mono ?_); (case side1 => repeat (first | exact (Kd.C_below HR0_1.out HB.out) | (with_reducible refine Kd.C_alloc ?_ _) | (with_reducible refine Kd.C_drewN ?_ _) | (with_reducible refine Kd.C_drew ?_))); (case side2 => exact HC0_1.out); (case side3 => exact BK6.out); (case side4 => exact BK8.out); rintro e w' ⟨rfl, ⟨nd, rfl⟩⟩; refine ⟨_, rfl, ?_⟩))
                    go_roundg k1
                    case measure => have := HK1.out; omega
                    case rel => exact ⟨(x5_1), (wrap64 (x21_1 + 1)), (by first | rfl | (simp; done) | (simp [*]; done)), H', ⟨by have := HK1.out; omega⟩, ⟨by (with_reducible repeat (first | apply Kd.R_alloc | apply Kd.R_drewN | apply Kd.R_drew)); exact HO_5.out⟩, ⟨by (with_reducible repeat (first | refine blk_drewN ?_ _ | refine blk_drew ?_ | refine blk_alloc ?_ _)); exact BK107.out⟩, ⟨by repeat (first | (with_reducible first | exact HB.out | apply below_alloc | apply pw_below_drewN | apply below_drew1 | refine below_set ?_ GE107.out) | exact HB.out)⟩⟩
                  · replace c20 := Bool.eq_false_iff.mpr c20
                    subst c20
                    have H1 : (if x5_1.length < 8796093022208 then (unknown_Forced.l0 k1 (x5_1 ++ [(⟨rd l0_0 x21_1, Go.bits .and .i64 (ji18) 1⟩ : S34)]) l0_0 (l0_0.length : Int) (wrap64 (x21_1 + 1)) l0_0 l0_1) else (none)) = some (r1, r2) := by rw [if_neg (show ¬ (false = true) by decide)] at H; exact H
                    clear H
                    have H := H1
                    clear H1
                    by_cases c22 : x5_1.length < 8796093022208
                    · rw [if_pos c22] at H
                      have LMc22 := Aside0.mk c22
                      clear c22
                      obtain ⟨y112, hy112⟩ : ∃ y_ : List (S34), y_ = (x5_1 ++ [(⟨rd l0_0 x21_1, Go.bits .and .i64 (ji18) 1⟩ : S34)]) := ⟨_, rfl⟩
                      replace H : (unknown_Forced.l0 k1 y112 l0_0 (l0_0.length : Int) (wrap64 (x21_1 + 1)) l0_0 l0_1) = some (r1, r2) := by first | (rw [hy112]; with_reducible exact H) | (have H2_ := (Option.bind_some _ _).symm.trans H; rw [hy112]; with_reducible exact H2_) | (have H2_ := (Option.bind_some _ _).symm.trans H; with_reducible exact H2_) | with_reducible exact H | (rw [hy112]; exact H) | exact H
                      have Ny112 := Aside0.mk hy112
                      clear hy112
                      have H' := Aside0.mk H
                      clear H
                      have p109 : 0 ≤ (x21_1 : Int) := of_decide_eq_true (by first | (with_reducible assumption) | assumption)
                      have q109 : x21_1 < (l0_0.length : Int) := of_decide_eq_true (by first | (with_reducible assumption) | assumption)
                      obtain ⟨ad109, e109, hx109_0⟩ := Kd.at_int HR0_0.out x21_1 p109 q109
                      cases e109
                      replace hx109_0 := (HB.out.cell (World.block_lt_of_cell? w _ hx109_0)).trans hx109_0
                      replace p109 := eq_true p109
                      replace q109 := eq_true q109
                      have hcz23_0 : wr.cell? ⟨gb107, 0, none⟩ = some (.slice (some ad109) l0_0.length c0_0) := (blk_cell BK107.out 0).trans rfl
                      have hcz23_1 : wr.cell? ⟨gb107, 1, none⟩ = some (.slice A0_1 l0_1.length c0_1) := (blk_cell BK107.out 1).trans rfl
                      have hfz23_0 := blk_frozen BK107.out 0
                      have hfz23_1 := blk_frozen BK107.out 1
                      have p110 : 0 ≤ (0 : Int) := (by omega)
                      have q110 : 0 < (l0_1.length : Int) := of_decide_eq_true (by first | (with_reducible assumption) | assumption)
                      obtain ⟨ad110, e110, hx110_0⟩ := Kd.at_int HR0_1.out 0 p110 q110
                      cases e110
                      have qi110 : (0 < l0_1.length) = True := eq_true (by omega)
                      (try rw [show ((0 : Int)).toNat = 0 from rfl] at hx110_0)
                      (try rw [Addr.add_zero'] at hx110_0)
                      replace hx110_0 := (HB.out.cell (World.block_lt_of_cell? w _ hx110_0)).trans hx110_0
                      replace p110 := eq_true p110
                      replace q110 := eq_true q110
                      go_upto_region 10 with (fail)
                      obtain ⟨w1, hw1⟩ : ∃ w1 : World, w1 = wr.alloc (Obj.cells #[Value.int IntKind.i64 x21_1] 3) := ⟨_, rfl⟩
                      obtain ⟨g6, hg6⟩ : ∃ g6 : Nat, g6 = wr.heap.size := ⟨_, rfl⟩
                      have m0 : Aside0 (w1.heap[gb107]? = some (.cells #[.slice (some ad109) l0_0.length c0_0, .slice (some ad110) l0_1.length c0_1] 24 (0, 0))) := ⟨by rw [hw1]; exact blk_alloc BK107.out _⟩
                      have m1 : Aside0 (w1.heap[g6]? = some (.cells #[.int .i64 x21_1] 3 (0, 0))) := ⟨by rw [hw1, hg6]; exact blk_new wr _⟩
                      have m2 : Aside0 (Below w.heap.size w w1) := ⟨by rw [hw1]; exact below_alloc HB.out _⟩
                      have m3 : Aside0 (Kd.R k34 34 w1 w.heap.size (fun _ => True) u5 x5_1) := ⟨by rw [hw1]; exact Kd.R_alloc HO_5.out _⟩
                      have m4 : w1.cell? ad110 = some (.int .i64 (rd l0_1 0)) := by rw [hw1]; exact cell_al hx110_0
                      rw [← hw1, ← hg6]
                      clear hw1 hg6 HB BK107 HO_5 hx109_0 hx110_0
                      have BK107 := m0
                      have HB := m2
                      have HO_5 := m3
                      have n1 : w1.cell? ⟨gb107, 1, none⟩ = some (.slice (some ad110) l0_1.length c0_1) := (blk_cell BK107.out 1).trans rfl
                      have n2 : w1.cell? ⟨g6, 0, none⟩ = some (.int .i64 x21_1) := (blk_cell m1.out 0).trans rfl
                      have n3 : ∀ o, (w1.alloc o).cell? ⟨gb107, 1, none⟩ = some (.slice (some ad110) l0_1.length c0_1) := fun o => cell_al n1
                      have n4 : ∀ o, (w1.alloc o).cell? ⟨g6, 0, none⟩ = some (.int .i64 x21_1) := fun o => cell_al n2
                      have n5 : ∀ o, (w1.alloc o).cell? ad110 = some (.int .i64 (rd l0_1 0)) := fun o => cell_al m4
                      clear m0 m2 m3
                      go_region
                      obtain ⟨w2, hw2⟩ : ∃ w2 : World, w2 = (w1.alloc (Obj.cells #[Value.int IntKind.i64 (Go.bits .and .i64 ji18 1)] 3)).drew := ⟨_, rfl⟩
                      obtain ⟨g8, hg8⟩ : ∃ g8 : Nat, g8 = w1.heap.size := ⟨_, rfl⟩
                      have m0 : Aside0 (w2.heap[gb107]? = some (.cells #[.slice (some ad109) l0_0.length c0_0, .slice (some ad110) l0_1.length c0_1] 24 (0, 0))) := ⟨by rw [hw2]; exact blk_drew (blk_alloc BK107.out _)⟩
                      have m5 : Aside0 (w2.heap[g6]? = some (.cells #[.int .i64 x21_1] 3 (0, 0))) := ⟨by rw [hw2]; exact blk_drew (blk_alloc m1.out _)⟩
                      have m6 : Aside0 (w2.heap[g8]? = some (.cells #[.int .i64 (Go.bits .and .i64 ji18 1)] 3 (0, 0))) := ⟨by rw [hw2, hg8]; exact blk_drew (blk_new w1 _)⟩
                      have m2 : Aside0 (Below w.heap.size w w2) := ⟨by rw [hw2]; exact below_drew (below_alloc HB.out _)⟩
                      have m3 : Aside0 (Kd.R k34 34 w2 w.heap.size (fun _ => True) u5 x5_1) := ⟨by rw [hw2]; exact Kd.R_drew (Kd.R_alloc HO_5.out _)⟩
                      rw [← hw2, ← hg8]
                      clear hw2 hg8 HB BK107 HO_5 n1 n2 n3 n4 n5 m1 m4
                      have BK107 := m0
                      have HB := m2
                      have HO_5 := m3
                      have BK6 : Aside0 (w2.cell? ⟨g6, 0, none⟩ = some (.int .i64 x21_1)) := ⟨(blk_cell m5.out 0).trans rfl⟩
                      have BK8 : Aside0 (w2.cell? ⟨g8, 0, none⟩ = some (.int .i64 (Go.bits .and .i64 ji18 1))) := ⟨(blk_cell m6.out 0).trans rfl⟩
                      have n1 : w2.cell? ⟨gb107, 1, none⟩ = some (.slice (some ad110) l0_1.length c0_1) := (blk_cell BK107.out 1).trans rfl
                      have n8 := BK8.out
                      have hmf : ∀ (fn : Fn) (first cap : Array Value) (w : World), (Instr.makeFunc fn first cap).run Tryz.prog w = .ok (.func fn first cap) w := fun _ _ _ _ => rfl
                      clear m0 m2 m3 m5 m6
                      go_wp2_with (first | ((with_reducible refine gate_callee (f := 26) rfl ?_); refine goesL_ (some 36) rfl rfl Tryz.func26 (by kernel_rfl) rfl #[.slice (some ad110) l0_1.length c0_1, .func (.func 27) #[] #[.pointer (some ⟨g6, 0, none⟩), .pointer (some ⟨g8, 0, none⟩)]] rfl (by (try simp only [List.map_toArray, List.map_cons, List.map_nil]); first | done | (simp only [hji18]; rfl) | rfl | (simp only [List.length_drop, List.length_take]; rfl) | (simp only [decide_eq_true_eq, decide_eq_false_iff_not] at *; congr <;> (first | rfl | (refine (congrArg (Value.int .i64) ?_ : Value.int .i64 _ = Value.int .i64 _); unfold wrap64; omega) | fail)) | fail) ?_; (with_reducible refine (slices_ContainsFunc_int_int.calls _ _ l0_1 x21_1 (Go.bits .and .i64 (ji18) 1) false g6 g8 _ ?side1 ?side2 ?side3 ?side4 A19.out).mono ?_); (case side1 => repeat (first | exact (Kd.C_below HR0_1.out HB.out) | (with_reducible refine Kd.C_alloc ?_ _) | (with_reducible refine Kd.C_drewN ?_ _) | (with_reducible refine Kd.C_drew ?_))); (case side2 => exact HC0_1.out); (case side3 => exact BK6.out); (case side4 => exact BK8.out); rintro e w' ⟨rfl, ⟨nd, rfl⟩⟩; refine ⟨_, rfl, ?_⟩) | ((with_reducible refine gate_builtin (b := .append) (xs := #[.tmp 38, .tmp 42]) rfl ?_); at_builtin; refine Kd.R_append k34 (w0 := w) w.heap.size rfl (.tmp 38) (.tmp 42) 27 34 (.agg #[(.int .i64 0), (.int .i64 0)]) 16 rfl Tryz.underlying27 info34 rfl (by decide) (by omega) u5 x5_1 (⟨rd l0_0 x21_1, Go.bits .and .i64 (ji18) 1⟩ : S34) [.int .i64 (rd l0_0 x21_1), .int .i64 (Go.bits .and .i64 (ji18) 1)] (fun _ => True) (fun _ => False) rfl rfl ?aP (fun _ hk => hk.elim) ?aF ?aO ?aB ?aS ?aL ?_; (case aP => exact k34_mkM _ _ _ (⟨rd l0_0 x21_1, Go.bits .and .i64 (ji18) 1⟩ : S34)); (case aB => exact (by repeat (first | (with_reducible first | exact HB.out | apply below_alloc | apply pw_below_drewN | apply below_drew1 | refine below_set ?_ GE107.out) | exact HB.out))); (case aF => exact (fun _ _ => trivial)); (case aO => exact (by (with_reducible repeat (first | apply Kd.R_alloc | apply Kd.R_drewN | apply Kd.R_drew)); exact HO_5.out)); (case aS => exact (below_size (by repeat (first | (with_reducible first | exact HB.out | apply below_alloc | apply pw_below_drewN | apply below_drew1 | refine below_set ?_ GE107.out) | exact HB.out)))); (case aL => have := LMc22.out; omega); intro v113 w24 ho hb hg hat; rw [← Ny112.out] at ho; have n0_ := Aside0.mk (blk_grown (g := gb107) (o := .cells #[.slice (some ad109) l0_0.length c0_0, .slice (some ad110) l0_1.length c0_1] 24 (0, 0)) (by (with_reducible repeat (first | refine blk_drewN ?_ _ | refine blk_drew ?_ | refine blk_alloc ?_ _)); exact BK107.out) hg (Kd.R_ne HO_5.out BK107.out (by decide))); have n1_ := Aside0.mk (hb); have n2_ := Aside0.mk (ho); clear BK107; clear HB; clear HO_5; have BK107 := n0_; have HB := n1_; have HO114 := n2_; clear n0_ n1_ n2_; clear ho hb hg hat))
                      go_roundg k1
                      case measure => have := HK1.out; omega
                      case rel => exact ⟨(y112), (wrap64 (x21_1 + 1)), (by first | rfl | (simp; done) | (simp [*]; done)), H', ⟨by have := HK1.out; omega⟩, ⟨by (with_reducible repeat (first | apply Kd.R_alloc | apply Kd.R_drewN | apply Kd.R_drew)); exact HO114.out⟩, ⟨by (with_reducible repeat (first | refine blk_drewN ?_ _ | refine blk_drew ?_ | refine blk_alloc ?_ _)); exact BK107.out⟩, ⟨by repeat (first | (with_reducible first | exact HB.out | apply below_alloc | apply pw_below_drewN | apply below_drew1 | refine below_set ?_ GE107.out) | exact HB.out)⟩⟩
                    · rw [if_neg c22] at H
                      exact absurd H (by simp)
                · rw [if_neg c16] at H
                  exact absurd H (by simp)
              · rw [if_neg c15] at H
                exact absurd H (by simp)
            · rw [if_neg c14] at H
              exact absurd H (by simp)
          · rw [if_neg c13] at H
            have c13b0 : decide (x21_1 < (l0_0.length : Int)) = false := decide_eq_false c13
            clear c13
            simp only [Option.some.injEq, Prod.mk.injEq] at H
            obtain ⟨rfl, rfl⟩ := H
            go_wp2
            go_ret2
            exact ⟨_, by first | rfl | (simp [errW_none, errW_some] <;> rfl) | (simp [*, errW_none, errW_some] <;> rfl), by (with_reducible repeat (first | apply Kd.R_alloc | apply Kd.R_drewN | apply Kd.R_drew)); exact HO_5.out, by repeat (first | (with_reducible first | exact HB.out | apply below_alloc | apply pw_below_drewN | apply below_drew1 | refine below_set ?_ GE107.out) | exact HB.out)⟩
  · rw [if_neg c3] at H
    have c3b0 : (t108 == 0) = false := beq_eq_false_iff_ne.mpr c3
    have c3b1 : (t108 != 0) = true := bne_iff_ne.mpr c3
    simp only [Option.some.injEq, Prod.mk.injEq] at H
    obtain ⟨rfl, rfl⟩ := H
    go_enter Tryz.func7, Tryz.ntmps7
    go_wp2_with (first | ((with_reducible refine gate_dst (N := 1) rfl ?_); refine box_event ?hg (N := 1) ?hd (cs := #[.slice A0_0 l0_0.length c0_0, .slice A0_1 l0_1.length c0_1]) (t := 24) ?hr ?_; (case hd => rfl); (case hg => rfl); (case hr => first | (go_simp; done) | (go_simp; rfl)); intro gb107 hg w25 hbox hb; have n0_ := Aside0.mk (below_step (by repeat (first | (with_reducible first | exact HB.out | apply below_alloc | apply pw_below_drewN | apply below_drew1) | exact HB.out)) hb); have n1_ := Aside0.mk (hbox); have n2_ := Aside0.mk ((by rw [hg]; exact (below_size (by repeat (first | (with_reducible first | exact HB.out | apply below_alloc | apply pw_below_drewN | apply below_drew1) | exact HB.out))) : w.heap.size ≤ gb107)); have n3_ := Aside0.mk ((by rw [hg]; exact (below_size (by repeat (first | (with_reducible first | exact HB.out | apply below_alloc | apply pw_below_drewN | apply below_drew1) | exact HB.out))) : w.heap.size ≤ gb107)); clear HB; have HB := n0_; have BK107 := n1_; have GW107 := n2_; have GE107 := n3_; clear n0_ n1_ n2_ n3_; clear hb hbox hg; have hcz26_0 : w25.cell? ⟨gb107, 0, none⟩ = some (.slice A0_0 l0_0.length c0_0) := (blk_cell BK107.out 0).trans rfl; have hcz26_1 : w25.cell? ⟨gb107, 1, none⟩ = some (.slice A0_1 l0_1.length c0_1) := (blk_cell BK107.out 1).trans rfl; have hfz26_0 := blk_frozen BK107.out 0; have hfz26_1 := blk_frozen BK107.out 1) | ((with_reducible refine gate_callee (f := 25) rfl ?_); refine goesL_ (some 10) rfl rfl Tryz.func25 (by kernel_rfl) rfl #[.agg #[.slice A0_0 l0_0.length c0_0, .slice A0_1 l0_1.length c0_1]] rfl (by (try simp only [List.map_toArray, List.map_cons, List.map_nil]); first | done | rfl | (simp only [List.length_drop, List.length_take]; rfl) | (simp only [decide_eq_true_eq, decide_eq_false_iff_not] at *; congr <;> (first | rfl | (refine (congrArg (Value.int .i64) ?_ : Value.int .i64 _ = Value.int .i64 _); unfold wrap64; omega) | fail)) | fail) ?_; (with_reducible refine (table_Valid.calls k _ _ l0_0 _ _ l0_1 t108 _ ?side1 ?side2 ?side3 ?side4 A2.out).mono ?_); (case side1 => repeat (first | exact (Kd.C_below HR0_0.out HB.out) | (with_reducible refine Kd.C_alloc ?_ _) | (with_reducible refine Kd.C_drewN ?_ _) | (with_reducible refine Kd.C_drew ?_))); (case side2 => exact HC0_0.out); (case side3 => repeat (first | exact (Kd.C_below HR0_1.out HB.out) | (with_reducible refine Kd.C_alloc ?_ _) | (with_reducible refine Kd.C_drewN ?_ _) | (with_reducible refine Kd.C_drew ?_))); (case side4 => exact HC0_1.out); rintro e w27 ⟨rfl, hb⟩; refine ⟨_, rfl, ?_⟩; have n0_ := Aside0.mk (blk_below (g := gb107) (o := .cells #[.slice A0_0 l0_0.length c0_0, .slice A0_1 l0_1.length c0_1] 24 (0, 0)) (by (with_reducible repeat (first | refine blk_drewN ?_ _ | refine blk_drew ?_ | refine blk_alloc ?_ _)); exact BK107.out) hb); have n1_ := Aside0.mk (below_step (by repeat (first | (with_reducible first | exact HB.out | apply below_alloc | apply pw_below_drewN | apply below_drew1 | refine below_set ?_ GE107.out) | exact HB.out)) hb); clear BK107; clear HB; have BK107 := n0_; have HB := n1_; clear n0_ n1_; (try clear hb); (try clear hb2); (try clear hk); (try clear hi)))
    go_ret2
    exact ⟨_, by first | rfl | (simp [errW_none, errW_some] <;> rfl) | (simp [*, errW_none, errW_some] <;> rfl), by first | exact Kd.R_nil _ _ _ _ _ | exact Kd.N_nil _ _ _ _ _ | exact Kd.V_nil _ _ _ _ _ | exact Kd.Q_nil _ _ _ _ _ | exact Kd.S_nil _ _ _ _ _, by repeat (first | (with_reducible first | exact HB.out | apply below_alloc | apply pw_below_drewN | apply below_drew1 | refine below_set ?_ GE107.out) | exact HB.out)⟩
end Go.Proofs.YtpgmoinalongnaaGreatDoor.U
namespace Go.Proofs.YtpgmoinalongnaaGreatDoor.U
open Go.RowKit Go.Proofs.YtpgmoinalongnaaGreatDoorW.PrintWords Go.Proofs.YtpgmoinalongnaaGreatDoorW.PrintLast Go.Proofs.YtpgmoinalongnaaGreatDoorW.PrintMore
set_option linter.unusedVariables false
set_option linter.unusedSimpArgs false
def ancepslaw39_awake.f : Option Bool := some true
theorem ancepslaw39_awake.calls (r : Bool) (w : World) (hT : EV.TabOK w) (h : ancepslaw39_awake.f = some r) :
    Calls Tryz.prog 5 #[] w fun e w' => e = .returned (.bool r) ∧ Below w.heap.size w w' := by
  cases h
  exact EV.awake39 w hT
def ancepslaw39_UnknownForced.j0 : Nat → Bool → List Int → List Int → Option (Bool)
  | 0, _, _, _ => none
  | k + 1, x13, x123000, x123001 => if x13 = true then ((ancepslaw39_awake.f).bind fun t125 => (some t125)) else ((slices_Clone_int_int.f x123000).bind fun t126 => ((slices_Clone_int_int.f x123001).bind fun t129 => ((unknown_Forced.f k t126 t129).bind fun bt132 => ((ancepsref39_Forced.f k x123000 x123001).bind fun bt136 => (if bt132.2 = bt136.2 then ((api_Pair.f k bt132.1 bt136.1).bind fun t140 => (some t140)) else (some false))))))
def ancepslaw39_UnknownForced.f (k : Nat) (l0_0 : List Int) (l0_1 : List Int) : Option (Bool) := (ancepslaw39_awake.f).bind fun t123 => (if t123 = true then ((ancepsref38_Few.f l0_0 l0_1).bind fun t124 => (ancepslaw39_UnknownForced.j0 k (!t124) l0_0 l0_1)) else (ancepslaw39_UnknownForced.j0 k true l0_0 l0_1))
def ancepslaw39_UnknownForced.T3 : Bool × List (List Nat × List Nat) := (true, [([], []), ([0], [0]), ([1], [1]), ([], []), ([3], [3]), ([4, 2], [4]), ([2, 5], [2, 5]), ([6, 5], [6]), ([7], [7]), ([8], [8]), ([8], [8]), ([9, 7, 0, 1, 2, 3, 4, 5, 6, 7, 8, 9], [9]), ([10, 11, 0, 1, 2, 3, 4, 5, 6, 7, 8, 9, 10, 11], [10])])
def ancepslaw39_UnknownForced.B3 : List Nat := [0, 1, 3, 0, 8, 31, 63, 127, 255, 511, 511, 1023, 4095]
theorem ancepslaw39_UnknownForced.tab3 : rtab .any (opsOf Tryz.f3 3) = ancepslaw39_UnknownForced.T3 := by kernel_rfl
theorem ancepslaw39_UnknownForced.bits3 : waitsOk ancepslaw39_UnknownForced.T3.2 ancepslaw39_UnknownForced.B3 = true := by kernel_rfl
set_option maxHeartbeats 8000000 in
set_option maxRecDepth 100000 in
theorem ancepslaw39_UnknownForced.calls (k : Nat) (A0_0 : Option Addr) (c0_0 : Nat) (l0_0 : List Int) (A0_1 : Option Addr) (c0_1 : Nat) (l0_1 : List Int) (r : Bool) (w : World) (hr0_0 : Kd.C (Kd.int .i64) w A0_0 l0_0.length l0_0) (hc0_0 : l0_0.length ≤ c0_0) (hr0_1 : Kd.C (Kd.int .i64) w A0_1 l0_1.length l0_1) (hc0_1 : l0_1.length ≤ c0_1) (hT : EV.TabOK w) (h : ancepslaw39_UnknownForced.f k l0_0 l0_1 = some r) :
    Calls Tryz.prog 3 #[.agg #[.slice A0_0 l0_0.length c0_0, .slice A0_1 l0_1.length c0_1]] w fun e w' => e = .returned (.bool r) ∧ Below w.heap.size w w' := by
  have hu24 := Tryz.underlying24
  have HTAB := Aside0.mk hT
  clear hT
  have HR0_0 := Aside0.mk hr0_0
  have HC0_0 := Aside0.mk hc0_0
  clear hr0_0 hc0_0
  have HR0_1 := Aside0.mk hr0_1
  have HC0_1 := Aside0.mk hc0_1
  clear hr0_1 hc0_1
  have HB := Aside0.mk (Below.refl w.heap.size w)
  have H : ((ancepslaw39_awake.f).bind fun t123 => (if t123 = true then ((ancepsref38_Few.f l0_0 l0_1).bind fun t124 => (ancepslaw39_UnknownForced.j0 k (!t124) l0_0 l0_1)) else (ancepslaw39_UnknownForced.j0 k true l0_0 l0_1))) = some r := h
  clear h
  have HC2 := Aside0.mk H
  clear H
  go_enter Tryz.func3, Tryz.ntmps3
  go_upto_region 1 with (first | ((with_reducible refine gate_dst (N := 1) rfl ?_); refine box_event ?hg (N := 1) ?hd (cs := #[.slice A0_0 l0_0.length c0_0, .slice A0_1 l0_1.length c0_1]) (t := 24) ?hr ?_; (case hd => rfl); (case hg => rfl); (case hr => first | (go_simp; done) | (go_simp; rfl)); intro gb122 hg w3 hbox hb; have n0_ := Aside0.mk (below_step (by repeat (first | (with_reducible first | exact HB.out | apply below_alloc | apply pw_below_drewN | apply below_drew1) | exact HB.out)) hb); have n1_ := Aside0.mk (hbox); have n2_ := Aside0.mk ((by rw [hg]; exact (below_size (by repeat (first | (with_reducible first | exact HB.out | apply below_alloc | apply pw_below_drewN | apply below_drew1) | exact HB.out))) : w.heap.size ≤ gb122)); have n3_ := Aside0.mk ((by rw [hg]; exact (below_size (by repeat (first | (with_reducible first | exact HB.out | apply below_alloc | apply pw_below_drewN | apply below_drew1) | exact HB.out))) : w.heap.size ≤ gb122)); clear HB; have HB := n0_; have BK122 := n1_; have GW122 := n2_; have GE122 := n3_; clear n0_ n1_ n2_ n3_; clear hb hbox hg))
  (try simp only [Act.put, List.setIfInBounds_toArray, List.set_cons_zero, List.set_cons_succ])
  go_cut [13] (fun v13 wc => ∃ (kq : Nat) (x13_1 : Bool), v13 = .bool x13_1 ∧ Aside0 (ancepslaw39_UnknownForced.j0 kq x13_1 l0_0 l0_1 = some r) ∧ Aside0 (kq ≤ k) ∧ Aside0 (wc.heap[gb122]? = some (.cells #[(.slice A0_0 l0_0.length c0_0), (.slice A0_1 l0_1.length c0_1)] 24 (0, 0))) ∧ Aside0 (Below w.heap.size w wc))
  case first =>
    have H := HC2.out
    clear HC2
    replace H := Option.bind_eq_some_iff.mp H
    obtain ⟨t123, A40, H⟩ := H
    replace H : (if t123 = true then ((ancepsref38_Few.f l0_0 l0_1).bind fun t124 => (ancepslaw39_UnknownForced.j0 k (!t124) l0_0 l0_1)) else (ancepslaw39_UnknownForced.j0 k true l0_0 l0_1)) = some r := H
    have A4 := Aside0.mk A40
    clear A40
    by_cases c5 : t123 = true
    · subst c5
      have H1 : ((ancepsref38_Few.f l0_0 l0_1).bind fun t124 => (ancepslaw39_UnknownForced.j0 k (!t124) l0_0 l0_1)) = some r := by rw [if_pos rfl] at H; exact H
      clear H
      have H := H1
      clear H1
      replace H := Option.bind_eq_some_iff.mp H
      obtain ⟨t124, A60, H⟩ := H
      replace H : (ancepslaw39_UnknownForced.j0 k (!t124) l0_0 l0_1) = some r := H
      have A6 := Aside0.mk A60
      clear A60
      have H' := Aside0.mk H
      clear H
      go_wp2_with (first | ((with_reducible refine gate_callee (f := 5) rfl ?_); refine goesL_ (some 7) rfl rfl Tryz.func5 (by kernel_rfl) rfl #[] rfl (by (try simp only [List.map_toArray, List.map_cons, List.map_nil]); first | done | rfl | (simp only [List.length_drop, List.length_take]; rfl) | (simp only [decide_eq_true_eq, decide_eq_false_iff_not] at *; congr <;> (first | rfl | (refine (congrArg (Value.int .i64) ?_ : Value.int .i64 _ = Value.int .i64 _); unfold wrap64; omega) | fail)) | fail) ?_; (with_reducible refine (ancepslaw39_awake.calls true _ ?sideT A4.out).mono ?_); (case sideT => exact EV.TabOK.below HTAB.out (by repeat (first | (with_reducible first | exact HB.out | apply below_alloc | apply pw_below_drewN | apply below_drew1 | refine below_set ?_ GE122.out) | exact HB.out))); rintro e w7 ⟨rfl, hb⟩; refine ⟨_, rfl, ?_⟩; have n0_ := Aside0.mk (blk_below (g := gb122) (o := .cells #[.slice A0_0 l0_0.length c0_0, .slice A0_1 l0_1.length c0_1] 24 (0, 0)) (by (with_reducible repeat (first | refine blk_drewN ?_ _ | refine blk_drew ?_ | refine blk_alloc ?_ _)); exact BK122.out) hb); have n1_ := Aside0.mk (below_step (by repeat (first | (with_reducible first | exact HB.out | apply below_alloc | apply pw_below_drewN | apply below_drew1 | refine below_set ?_ GE122.out) | exact HB.out)) hb); clear BK122; clear HB; have BK122 := n0_; have HB := n1_; clear n0_ n1_; (try clear hb); (try clear hb2); (try clear hk); (try clear hi); have hcz8_0 : w7.cell? ⟨gb122, 0, none⟩ = some (.slice A0_0 l0_0.length c0_0) := (blk_cell BK122.out 0).trans rfl; have hcz8_1 : w7.cell? ⟨gb122, 1, none⟩ = some (.slice A0_1 l0_1.length c0_1) := (blk_cell BK122.out 1).trans rfl; have hfz8_0 := blk_frozen BK122.out 0; have hfz8_1 := blk_frozen BK122.out 1) | (go_at_call 6; (with_reducible refine (ancepsref38_Few.calls _ _ l0_0 _ _ l0_1 t124 _ ?side1 ?side2 ?side3 ?side4 A6.out).mono ?_); (case side1 => repeat (first | exact (Kd.C_below HR0_0.out HB.out) | (with_reducible refine Kd.C_alloc ?_ _) | (with_reducible refine Kd.C_drewN ?_ _) | (with_reducible refine Kd.C_drew ?_))); (case side2 => exact HC0_0.out); (case side3 => repeat (first | exact (Kd.C_below HR0_1.out HB.out) | (with_reducible refine Kd.C_alloc ?_ _) | (with_reducible refine Kd.C_drewN ?_ _) | (with_reducible refine Kd.C_drew ?_))); (case side4 => exact HC0_1.out); rintro e w9 ⟨rfl, hb⟩; have n0_ := Aside0.mk (blk_below (g := gb122) (o := .cells #[.slice A0_0 l0_0.length c0_0, .slice A0_1 l0_1.length c0_1] 24 (0, 0)) (by (with_reducible repeat (first | refine blk_drewN ?_ _ | refine blk_drew ?_ | refine blk_alloc ?_ _)); exact BK122.out) hb); have n1_ := Aside0.mk (below_step (by repeat (first | (with_reducible first | exact HB.out | apply below_alloc | apply pw_below_drewN | apply below_drew1 | refine below_set ?_ GE122.out) | exact HB.out)) hb); clear BK122; clear HB; have BK122 := n0_; have HB := n1_; clear n0_ n1_; (try clear hb); (try clear hb2); (try clear hk); (try clear hi)))
      go_meet
      case rel => exact ⟨_, (!t124), (by first | rfl | (simp; done) | (simp [*]; done)), H', ⟨by first | omega | exact Nat.le_refl _⟩, ⟨by (with_reducible repeat (first | refine blk_drewN ?_ _ | refine blk_drew ?_ | refine blk_alloc ?_ _)); exact BK122.out⟩, ⟨by repeat (first | (with_reducible first | exact HB.out | apply below_alloc | apply pw_below_drewN | apply below_drew1 | refine below_set ?_ GE122.out) | exact HB.out)⟩⟩
    · replace c5 := Bool.eq_false_iff.mpr c5
      subst c5
      have H1 : (ancepslaw39_UnknownForced.j0 k true l0_0 l0_1) = some r := by rw [if_neg (show ¬ (false = true) by decide)] at H; exact H
      clear H
      have H := H1
      clear H1
      have H' := Aside0.mk H
      clear H
      go_wp2_with (first | ((with_reducible refine gate_callee (f := 5) rfl ?_); refine goesL_ (some 7) rfl rfl Tryz.func5 (by kernel_rfl) rfl #[] rfl (by (try simp only [List.map_toArray, List.map_cons, List.map_nil]); first | done | rfl | (simp only [List.length_drop, List.length_take]; rfl) | (simp only [decide_eq_true_eq, decide_eq_false_iff_not] at *; congr <;> (first | rfl | (refine (congrArg (Value.int .i64) ?_ : Value.int .i64 _ = Value.int .i64 _); unfold wrap64; omega) | fail)) | fail) ?_; (with_reducible refine (ancepslaw39_awake.calls false _ ?sideT A4.out).mono ?_); (case sideT => exact EV.TabOK.below HTAB.out (by repeat (first | (with_reducible first | exact HB.out | apply below_alloc | apply pw_below_drewN | apply below_drew1 | refine below_set ?_ GE122.out) | exact HB.out))); rintro e w10 ⟨rfl, hb⟩; refine ⟨_, rfl, ?_⟩; have n0_ := Aside0.mk (blk_below (g := gb122) (o := .cells #[.slice A0_0 l0_0.length c0_0, .slice A0_1 l0_1.length c0_1] 24 (0, 0)) (by (with_reducible repeat (first | refine blk_drewN ?_ _ | refine blk_drew ?_ | refine blk_alloc ?_ _)); exact BK122.out) hb); have n1_ := Aside0.mk (below_step (by repeat (first | (with_reducible first | exact HB.out | apply below_alloc | apply pw_below_drewN | apply below_drew1 | refine below_set ?_ GE122.out) | exact HB.out)) hb); clear BK122; clear HB; have BK122 := n0_; have HB := n1_; clear n0_ n1_; (try clear hb); (try clear hb2); (try clear hk); (try clear hi)))
      go_meet
      case rel => exact ⟨_, (true), (by first | rfl | (simp; done) | (simp [*]; done)), H', ⟨by first | omega | exact Nat.le_refl _⟩, ⟨by (with_reducible repeat (first | refine blk_drewN ?_ _ | refine blk_drew ?_ | refine blk_alloc ?_ _)); exact BK122.out⟩, ⟨by repeat (first | (with_reducible first | exact HB.out | apply below_alloc | apply pw_below_drewN | apply below_drew1 | refine below_set ?_ GE122.out) | exact HB.out)⟩⟩
  case rest =>
    clear HC2
    try clear p2
    try clear c3
    try clear c5
    try clear p6
    try clear hcz8_0
    try clear hcz8_1
    try clear hfz8_0
    try clear hfz8_1
    obtain ⟨kq, x13_1, rfl, HA, HJ1, BK122, HB⟩ := hcut
    cases kq with
    | zero => exact absurd HA.out (by simp [ancepslaw39_UnknownForced.j0])
    | succ kj1 =>
      have H := HA.out
      clear HA
      simp only [ancepslaw39_UnknownForced.j0] at H
      by_cases c11 : x13_1 = true
      · subst c11
        have H1 : ((ancepslaw39_awake.f).bind fun t125 => (some t125)) = some r := by rw [if_pos rfl] at H; exact H
        clear H
        have H := H1
        clear H1
        replace H := Option.bind_eq_some_iff.mp H
        obtain ⟨t125, A120, H⟩ := H
        replace H : (some t125) = some r := H
        have A12 := Aside0.mk A120
        clear A120
        obtain rfl := Option.some.inj H
        go_wp2_with (first | ((with_reducible refine gate_callee (f := 5) rfl ?_); refine goesL_ (some 14) rfl rfl Tryz.func5 (by kernel_rfl) rfl #[] rfl (by (try simp only [List.map_toArray, List.map_cons, List.map_nil]); first | done | rfl | (simp only [List.length_drop, List.length_take]; rfl) | (simp only [decide_eq_true_eq, decide_eq_false_iff_not] at *; congr <;> (first | rfl | (refine (congrArg (Value.int .i64) ?_ : Value.int .i64 _ = Value.int .i64 _); unfold wrap64; omega) | fail)) | fail) ?_; (with_reducible refine (ancepslaw39_awake.calls t125 _ ?sideT A12.out).mono ?_); (case sideT => exact EV.TabOK.below HTAB.out (by repeat (first | (with_reducible first | exact HB.out | apply below_alloc | apply pw_below_drewN | apply below_drew1 | refine below_set ?_ GE122.out) | exact HB.out))); rintro e w13 ⟨rfl, hb⟩; refine ⟨_, rfl, ?_⟩; have n0_ := Aside0.mk (blk_below (g := gb122) (o := .cells #[.slice A0_0 l0_0.length c0_0, .slice A0_1 l0_1.length c0_1] 24 (0, 0)) (by (with_reducible repeat (first | refine blk_drewN ?_ _ | refine blk_drew ?_ | refine blk_alloc ?_ _)); exact BK122.out) hb); have n1_ := Aside0.mk (below_step (by repeat (first | (with_reducible first | exact HB.out | apply below_alloc | apply pw_below_drewN | apply below_drew1 | refine below_set ?_ GE122.out) | exact HB.out)) hb); clear BK122; clear HB; have BK122 := n0_; have HB := n1_; clear n0_ n1_; (try clear hb); (try clear hb2); (try clear hk); (try clear hi)))
        go_ret
        exact ⟨by first | rfl | (simp [errW_none, errW_some] <;> rfl) | (simp [*, errW_none, errW_some] <;> rfl), by repeat (first | (with_reducible first | exact HB.out | apply below_alloc | apply pw_below_drewN | apply below_drew1 | refine below_set ?_ GE122.out) | exact HB.out)⟩
      · replace c11 := Bool.eq_false_iff.mpr c11
        subst c11
        have H1 : ((slices_Clone_int_int.f l0_0).bind fun t126 => ((slices_Clone_int_int.f l0_1).bind fun t129 => ((unknown_Forced.f kj1 t126 t129).bind fun bt132 => ((ancepsref39_Forced.f kj1 l0_0 l0_1).bind fun bt136 => (if bt132.2 = bt136.2 then ((api_Pair.f kj1 bt132.1 bt136.1).bind fun t140 => (some t140)) else (some false)))))) = some r := by rw [if_neg (show ¬ (false = true) by decide)] at H; exact H
        clear H
        have H := H1
        clear H1
        replace H := Option.bind_eq_some_iff.mp H
        obtain ⟨t126, A140, H⟩ := H
        replace H : ((slices_Clone_int_int.f l0_1).bind fun t129 => ((unknown_Forced.f kj1 t126 t129).bind fun bt132 => ((ancepsref39_Forced.f kj1 l0_0 l0_1).bind fun bt136 => (if bt132.2 = bt136.2 then ((api_Pair.f kj1 bt132.1 bt136.1).bind fun t140 => (some t140)) else (some false))))) = some r := H
        have A14 := Aside0.mk A140
        clear A140
        replace H := Option.bind_eq_some_iff.mp H
        obtain ⟨t129, A150, H⟩ := H
        replace H : ((unknown_Forced.f kj1 t126 t129).bind fun bt132 => ((ancepsref39_Forced.f kj1 l0_0 l0_1).bind fun bt136 => (if bt132.2 = bt136.2 then ((api_Pair.f kj1 bt132.1 bt136.1).bind fun t140 => (some t140)) else (some false)))) = some r := H
        have A15 := Aside0.mk A150
        clear A150
        replace H := Option.bind_eq_some_iff.mp H
        obtain ⟨⟨t132, t135⟩, A160, H⟩ := H
        replace H : ((ancepsref39_Forced.f kj1 l0_0 l0_1).bind fun bt136 => (if t135 = bt136.2 then ((api_Pair.f kj1 t132 bt136.1).bind fun t140 => (some t140)) else (some false))) = some r := H
        have A16 := Aside0.mk A160
        clear A160
        replace H := Option.bind_eq_some_iff.mp H
        obtain ⟨⟨t136, t139⟩, A170, H⟩ := H
        replace H : (if t135 = t139 then ((api_Pair.f kj1 t132 t136).bind fun t140 => (some t140)) else (some false)) = some r := H
        have A17 := Aside0.mk A170
        clear A170
        by_cases c18 : t135 = t139
        · rw [if_pos c18] at H
          have c18b0 : (t135 == t139) = true := beq_iff_eq.mpr c18
          have c18b1 : (t135 != t139) = false := bne_eq_false_iff_eq.mpr c18
          clear c18
          replace H := Option.bind_eq_some_iff.mp H
          obtain ⟨t140, A190, H⟩ := H
          replace H : (some t140) = some r := H
          have A19 := Aside0.mk A190
          clear A190
          obtain rfl := Option.some.inj H
          try go_wp2
          have n0_ := Aside0.mk (blk_drew BK122.out)
          have n1_ := Aside0.mk (below_drew1 HB.out)
          clear BK122
          clear HB
          have BK122 := n0_
          have HB := n1_
          clear n0_ n1_
          refine start_ (n := 13) (S := fun w' => w'.cell? ⟨gb122, 0, none⟩ = some (.slice A0_0 l0_0.length c0_0) ∧ w'.cell? ⟨gb122, 1, none⟩ = some (.slice A0_1 l0_1.length c0_1)) (ds := []) #[false, false, false, false, false, false, false, false, false, false, false, false, false] (by kernel_rfl) rfl rfl ⟨(blk_cell BK122.out 0).trans rfl, (blk_cell BK122.out 1).trans rfl⟩ (fun hHeld => ?_); refine with_tabW ancepslaw39_UnknownForced.tab3 ancepslaw39_UnknownForced.bits3 (fun HT_ HW_ => ?_)
          generalize wc.drew = w20 at BK122 HB hHeld ⊢
          refine pure_ (i := 0) (N := some 16) (v := ?_) (a' := ?_) #[true, false, false, false, false, false, false, false, false, false, false, false, false] rfl rfl (any_of HT_.out (by kernel_rfl)) (fun _ _ _ h => h) (Or.inl ⟨by rfl, ?_⟩) ?_ ?_
          rotate_left
          · intro w'
            go_simp
            with_reducible rfl
          rotate_left
          · simp only [Act.put, List.setIfInBounds_toArray, List.set_cons_zero, List.set_cons_succ, i64_w]
            rfl
          refine pure_ (i := 3) (N := some 19) (v := ?_) (a' := ?_) #[true, false, false, true, false, false, false, false, false, false, false, false, false] rfl rfl (any_of HT_.out (by kernel_rfl)) (fun _ _ _ h => h) (Or.inl ⟨by rfl, ?_⟩) ?_ ?_
          rotate_left
          · intro w'
            go_simp
            with_reducible rfl
          rotate_left
          · simp only [Act.put, List.setIfInBounds_toArray, List.set_cons_zero, List.set_cons_succ, i64_w]
            rfl
          refine take_ (i := 1) (N := some 17) (v := ?_) (a' := ?_) #[true, true, false, true, false, false, false, false, false, false, false, false, false] rfl rfl (take_ofW HT_.out HW_.out (by kernel_rfl)) (fun _ _ _ h => h) (Or.inl ⟨by rfl, ?_⟩) hHeld ?_ ?_
          rotate_left
          · rintro w' ⟨s0, s1⟩
            go_simp
            with_reducible rfl
          rotate_left
          · simp only [Act.put, List.setIfInBounds_toArray, List.set_cons_zero, List.set_cons_succ, i64_w]
            rfl
          refine take_ (i := 4) (N := some 20) (v := ?_) (a' := ?_) #[true, true, false, true, true, false, false, false, false, false, false, false, false] rfl rfl (take_ofW HT_.out HW_.out (by kernel_rfl)) (fun _ _ _ h => h) (Or.inl ⟨by rfl, ?_⟩) hHeld ?_ ?_
          rotate_left
          · rintro w' ⟨s0, s1⟩
            go_simp
            with_reducible rfl
          rotate_left
          · simp only [Act.put, List.setIfInBounds_toArray, List.set_cons_zero, List.set_cons_succ, i64_w]
            rfl
          refine one_ (i := 2) (N := some 18) #[true, true, true, true, true, false, false, false, false, false, false, false, false] rfl rfl (one_of HT_.out (by kernel_rfl)) (by decide) (fun K hK => ?_)
          refine goes_ Tryz.func8 (by kernel_rfl) rfl #[.slice A0_0 l0_0.length c0_0] (by rfl) rfl rfl (by (try simp only [List.map_toArray, List.map_cons, List.map_nil]); first | done | rfl | (simp only [List.length_drop, List.length_take]; rfl)) ?_
          with_reducible refine (slices_Clone_int_int.calls _ _ l0_0 t126 _ ?side1 ?side2 A14.out).mono ?_
          (case side1 => repeat (first | exact (Kd.C_below HR0_0.out HB.out) | (with_reducible refine Kd.C_alloc ?_ _) | (with_reducible refine Kd.C_drewN ?_ _) | (with_reducible refine Kd.C_drew ?_)))
          (case side2 => exact HC0_0.out)
          rintro e w21 ⟨v127, rfl, ho0, hb⟩
          refine ⟨_, rfl, ?_⟩
          have n0_ := Aside0.mk (Kd.R_lower ho0 (below_size (by repeat (first | (with_reducible first | exact HB.out | apply below_alloc | apply pw_below_drewN | apply below_drew1 | refine below_set ?_ GE122.out) | exact HB.out))))
          have n1_ := Aside0.mk (blk_below (g := gb122) (o := .cells #[.slice A0_0 l0_0.length c0_0, .slice A0_1 l0_1.length c0_1] 24 (0, 0)) (by (with_reducible repeat (first | refine blk_drewN ?_ _ | refine blk_drew ?_ | refine blk_alloc ?_ _)); exact BK122.out) hb)
          have n2_ := Aside0.mk (below_step (by repeat (first | (with_reducible first | exact HB.out | apply below_alloc | apply pw_below_drewN | apply below_drew1 | refine below_set ?_ GE122.out) | exact HB.out)) hb)
          clear BK122
          clear HB
          have HO128 := n0_
          have BK122 := n1_
          have HB := n2_
          clear n0_ n1_ n2_
          (try clear hb)
          (try clear hb2)
          (try clear hk)
          (try clear hi)
          (try clear ho0)
          refine hK.out _ _ ⟨(blk_cell BK122.out 0).trans rfl, (blk_cell BK122.out 1).trans rfl⟩ (fun hHeld => ?_)
          clear hK K
          refine norm_ (a' := ?_) ?_ ?_
          rotate_left
          · show Act.put _ (some 18) _ = _
            simp only [Act.put, List.setIfInBounds_toArray, List.set_cons_zero, List.set_cons_succ, i64_w]
            rfl
          refine one_ (i := 5) (N := some 21) #[true, true, true, true, true, true, false, false, false, false, false, false, false] rfl rfl (one_of HT_.out (by kernel_rfl)) (by decide) (fun K hK => ?_)
          refine goes_ Tryz.func8 (by kernel_rfl) rfl #[.slice A0_1 l0_1.length c0_1] (by rfl) rfl rfl (by (try simp only [List.map_toArray, List.map_cons, List.map_nil]); first | done | rfl | (simp only [List.length_drop, List.length_take]; rfl)) ?_
          with_reducible refine (slices_Clone_int_int.calls _ _ l0_1 t129 _ ?side1 ?side2 A15.out).mono ?_
          (case side1 => repeat (first | exact (Kd.C_below HR0_1.out HB.out) | (with_reducible refine Kd.C_alloc ?_ _) | (with_reducible refine Kd.C_drewN ?_ _) | (with_reducible refine Kd.C_drew ?_)))
          (case side2 => exact HC0_1.out)
          rintro e w22 ⟨v130, rfl, ho0, hb⟩
          refine ⟨_, rfl, ?_⟩
          have n0_ := Aside0.mk (Kd.R_elder' (by (with_reducible repeat (first | apply Kd.R_alloc | apply Kd.R_drewN | apply Kd.R_drew)); exact HO128.out) (Kd.R_base ho0) hb)
          have n1_ := Aside0.mk (Kd.R_lower (Kd.R_new' ho0 (Kd.R_lt (by (with_reducible repeat (first | apply Kd.R_alloc | apply Kd.R_drewN | apply Kd.R_drew)); exact HO128.out))) (below_size (by repeat (first | (with_reducible first | exact HB.out | apply below_alloc | apply pw_below_drewN | apply below_drew1 | refine below_set ?_ GE122.out) | exact HB.out))))
          have n2_ := Aside0.mk (blk_below (g := gb122) (o := .cells #[.slice A0_0 l0_0.length c0_0, .slice A0_1 l0_1.length c0_1] 24 (0, 0)) (by (with_reducible repeat (first | refine blk_drewN ?_ _ | refine blk_drew ?_ | refine blk_alloc ?_ _)); exact BK122.out) hb)
          have n3_ := Aside0.mk (below_step (by repeat (first | (with_reducible first | exact HB.out | apply below_alloc | apply pw_below_drewN | apply below_drew1 | refine below_set ?_ GE122.out) | exact HB.out)) hb)
          clear HO128
          clear BK122
          clear HB
          have HO128 := n0_
          have HO131 := n1_
          have BK122 := n2_
          have HB := n3_
          clear n0_ n1_ n2_ n3_
          (try clear hb)
          (try clear hb2)
          (try clear hk)
          (try clear hi)
          (try clear ho0)
          obtain ⟨Ao23, co23, eo23⟩ := Kd.R_slice HO131.out
          (first | subst eo23 | (injection eo23 with f1_ f2_ f3_; have f4_ := f1_.symm; have f5_ := f3_.symm; clear f1_ f2_ f3_; subst f4_; subst f5_))
          obtain ⟨Ao24, co24, eo24⟩ := Kd.R_slice HO128.out
          (first | subst eo24 | (injection eo24 with f1_ f2_ f3_; have f4_ := f1_.symm; have f5_ := f3_.symm; clear f1_ f2_ f3_; subst f4_; subst f5_))
          refine hK.out _ _ ⟨(blk_cell BK122.out 0).trans rfl, (blk_cell BK122.out 1).trans rfl⟩ (fun hHeld => ?_)
          clear hK K
          refine norm_ (a' := ?_) ?_ ?_
          rotate_left
          · show Act.put _ (some 21) _ = _
            simp only [Act.put, List.setIfInBounds_toArray, List.set_cons_zero, List.set_cons_succ, i64_w]
            rfl
          refine pure_ (i := 6) (N := some 22) (v := ?_) (a' := ?_) #[true, true, true, true, true, true, true, false, false, false, false, false, false] rfl rfl (any_of HT_.out (by kernel_rfl)) (fun _ _ _ h => h) (Or.inl ⟨by rfl, ?_⟩) ?_ ?_
          rotate_left
          · intro w'
            go_simp
            with_reducible rfl
          rotate_left
          · simp only [Act.put, List.setIfInBounds_toArray, List.set_cons_zero, List.set_cons_succ, i64_w]
            rfl
          refine one_ (i := 7) (N := some 23) #[true, true, true, true, true, true, true, true, false, false, false, false, false] rfl rfl (one_of HT_.out (by kernel_rfl)) (by decide) (fun K hK => ?_)
          refine goes_ Tryz.func7 (by kernel_rfl) rfl #[.agg #[.slice Ao24 t126.length co24, .slice Ao23 t129.length co23]] (by rfl) rfl rfl (by (try simp only [List.map_toArray, List.map_cons, List.map_nil]); first | done | rfl | (simp only [List.length_drop, List.length_take]; rfl)) ?_
          with_reducible refine (unknown_Forced.calls kj1 _ _ t126 _ _ t129 t132 t135 _ ?side1 ?side2 ?side3 ?side4 A16.out).mono ?_
          (case side1 => repeat (first | exact (Kd.R_reads' HO128.out).2.2 | (with_reducible refine Kd.C_alloc ?_ _) | (with_reducible refine Kd.C_drewN ?_ _) | (with_reducible refine Kd.C_drew ?_)))
          (case side2 => exact (Kd.R_reads' HO128.out).2.1)
          (case side3 => repeat (first | exact (Kd.R_reads' HO131.out).2.2 | (with_reducible refine Kd.C_alloc ?_ _) | (with_reducible refine Kd.C_drewN ?_ _) | (with_reducible refine Kd.C_drew ?_)))
          (case side4 => exact (Kd.R_reads' HO131.out).2.1)
          rintro e w25 ⟨v133, rfl, ho0, hb⟩
          refine ⟨_, rfl, ?_⟩
          have n0_ := Aside0.mk (Kd.R_below (by (with_reducible repeat (first | apply Kd.R_alloc | apply Kd.R_drewN | apply Kd.R_drew)); exact HO128.out) hb)
          have n1_ := Aside0.mk (Kd.R_below (by (with_reducible repeat (first | apply Kd.R_alloc | apply Kd.R_drewN | apply Kd.R_drew)); exact HO131.out) hb)
          have n2_ := Aside0.mk (Kd.R_lower ho0 (below_size (by repeat (first | (with_reducible first | exact HB.out | apply below_alloc | apply pw_below_drewN | apply below_drew1 | refine below_set ?_ GE122.out) | exact HB.out))))
          have n3_ := Aside0.mk (blk_below (g := gb122) (o := .cells #[.slice A0_0 l0_0.length c0_0, .slice A0_1 l0_1.length c0_1] 24 (0, 0)) (by (with_reducible repeat (first | refine blk_drewN ?_ _ | refine blk_drew ?_ | refine blk_alloc ?_ _)); exact BK122.out) hb)
          have n4_ := Aside0.mk (below_step (by repeat (first | (with_reducible first | exact HB.out | apply below_alloc | apply pw_below_drewN | apply below_drew1 | refine below_set ?_ GE122.out) | exact HB.out)) hb)
          clear HO128
          clear HO131
          clear BK122
          clear HB
          have HO128 := n0_
          have HO131 := n1_
          have HO134 := n2_
          have BK122 := n3_
          have HB := n4_
          clear n0_ n1_ n2_ n3_ n4_
          (try clear hb)
          (try clear hb2)
          (try clear hk)
          (try clear hi)
          (try clear ho0)
          refine hK.out _ _ ⟨(blk_cell BK122.out 0).trans rfl, (blk_cell BK122.out 1).trans rfl⟩ (fun hHeld => ?_)
          clear hK K
          refine norm_ (a' := ?_) ?_ ?_
          rotate_left
          · show Act.put _ (some 23) _ = _
            simp only [Act.put, List.setIfInBounds_toArray, List.set_cons_zero, List.set_cons_succ, i64_w]
            rfl
          refine pure_ (i := 8) (N := some 15) (v := ?_) (a' := ?_) #[true, true, true, true, true, true, true, true, true, false, false, false, false] rfl rfl (any_of HT_.out (by kernel_rfl)) (fun _ _ _ h => h) (Or.inl ⟨by rfl, ?_⟩) ?_ ?_
          rotate_left
          · intro w'
            go_simp
            with_reducible rfl
          rotate_left
          · simp only [Act.put, List.setIfInBounds_toArray, List.set_cons_zero, List.set_cons_succ, i64_w]
            rfl
          refine pure_ (i := 9) (N := some 24) (v := ?_) (a' := ?_) #[true, true, true, true, true, true, true, true, true, true, false, false, false] rfl rfl (any_of HT_.out (by kernel_rfl)) (fun _ _ _ h => h) (Or.inl ⟨by rfl, ?_⟩) ?_ ?_
          rotate_left
          · intro w'
            go_simp
            with_reducible rfl
          rotate_left
          · simp only [Act.put, List.setIfInBounds_toArray, List.set_cons_zero, List.set_cons_succ, i64_w]
            rfl
          refine pure_ (i := 10) (N := some 25) (v := ?_) (a' := ?_) #[true, true, true, true, true, true, true, true, true, true, true, false, false] rfl rfl (any_of HT_.out (by kernel_rfl)) (fun _ _ _ h => h) (Or.inl ⟨by rfl, ?_⟩) ?_ ?_
          rotate_left
          · intro w'
            go_simp
            with_reducible rfl
          rotate_left
          · simp only [Act.put, List.setIfInBounds_toArray, List.set_cons_zero, List.set_cons_succ, i64_w]
            rfl
          refine pure_ (i := 11) (N := some 3) (v := ?_) (a' := ?_) #[true, true, true, true, true, true, true, true, true, true, true, true, false] rfl rfl (any_of HT_.out (by kernel_rfl)) (fun _ _ _ h => h) (Or.inl ⟨by rfl, ?_⟩) ?_ ?_
          rotate_left
          · intro w'
            go_simp
            with_reducible rfl
          rotate_left
          · simp only [Act.put, List.setIfInBounds_toArray, List.set_cons_zero, List.set_cons_succ, i64_w]
            rfl
          refine pure_ (i := 12) (N := some 4) (v := ?_) (a' := ?_) #[true, true, true, true, true, true, true, true, true, true, true, true, true] rfl rfl (any_of HT_.out (by kernel_rfl)) (fun _ _ _ h => h) (Or.inl ⟨by rfl, ?_⟩) ?_ ?_
          rotate_left
          · intro w'
            go_simp
            with_reducible rfl
          rotate_left
          · simp only [Act.put, List.setIfInBounds_toArray, List.set_cons_zero, List.set_cons_succ, i64_w]
            rfl
          refine done_ (done_of HT_.out (by kernel_rfl)) ?_
          have hcz26_0 : w25.cell? ⟨gb122, 0, none⟩ = some (.slice A0_0 l0_0.length c0_0) := (blk_cell BK122.out 0).trans rfl
          have hcz26_1 : w25.cell? ⟨gb122, 1, none⟩ = some (.slice A0_1 l0_1.length c0_1) := (blk_cell BK122.out 1).trans rfl
          have hfz26_0 := blk_frozen BK122.out 0
          have hfz26_1 := blk_frozen BK122.out 1
          try go_wp2_with (first | ((with_reducible refine gate_callee (f := 9) rfl ?_); refine goesL_ (some 28) rfl rfl Tryz.func9 (by kernel_rfl) rfl #[.agg #[.slice A0_0 l0_0.length c0_0, .slice A0_1 l0_1.length c0_1]] rfl (by (try simp only [List.map_toArray, List.map_cons, List.map_nil]); first | done | rfl | (simp only [List.length_drop, List.length_take]; rfl) | (simp only [decide_eq_true_eq, decide_eq_false_iff_not] at *; congr <;> (first | rfl | (refine (congrArg (Value.int .i64) ?_ : Value.int .i64 _ = Value.int .i64 _); unfold wrap64; omega) | fail)) | fail) ?_; (with_reducible refine (ancepsref39_Forced.calls kj1 _ _ l0_0 _ _ l0_1 t136 t139 _ ?side1 ?side2 ?side3 ?side4 A17.out).mono ?_); (case side1 => repeat (first | exact (Kd.C_below HR0_0.out HB.out) | (with_reducible refine Kd.C_alloc ?_ _) | (with_reducible refine Kd.C_drewN ?_ _) | (with_reducible refine Kd.C_drew ?_))); (case side2 => exact HC0_0.out); (case side3 => repeat (first | exact (Kd.C_below HR0_1.out HB.out) | (with_reducible refine Kd.C_alloc ?_ _) | (with_reducible refine Kd.C_drewN ?_ _) | (with_reducible refine Kd.C_drew ?_))); (case side4 => exact HC0_1.out); rintro e w27 ⟨v137, rfl, ho0, hb⟩; refine ⟨_, rfl, ?_⟩; have n0_ := Aside0.mk (Kd.R_below (by (with_reducible repeat (first | apply Kd.R_alloc | apply Kd.R_drewN | apply Kd.R_drew)); exact HO128.out) hb); have n1_ := Aside0.mk (Kd.R_below (by (with_reducible repeat (first | apply Kd.R_alloc | apply Kd.R_drewN | apply Kd.R_drew)); exact HO131.out) hb); have n2_ := Aside0.mk (Kd.R_below (by (with_reducible repeat (first | apply Kd.R_alloc | apply Kd.R_drewN | apply Kd.R_drew)); exact HO134.out) hb); have n3_ := Aside0.mk (Kd.R_lower ho0 (below_size (by repeat (first | (with_reducible first | exact HB.out | apply below_alloc | apply pw_below_drewN | apply below_drew1 | refine below_set ?_ GE122.out) | exact HB.out)))); have n4_ := Aside0.mk (blk_below (g := gb122) (o := .cells #[.slice A0_0 l0_0.length c0_0, .slice A0_1 l0_1.length c0_1] 24 (0, 0)) (by (with_reducible repeat (first | refine blk_drewN ?_ _ | refine blk_drew ?_ | refine blk_alloc ?_ _)); exact BK122.out) hb); have n5_ := Aside0.mk (below_step (by repeat (first | (with_reducible first | exact HB.out | apply below_alloc | apply pw_below_drewN | apply below_drew1 | refine below_set ?_ GE122.out) | exact HB.out)) hb); clear HO128; clear HO131; clear HO134; clear BK122; clear HB; have HO128 := n0_; have HO131 := n1_; have HO134 := n2_; have HO138 := n3_; have BK122 := n4_; have HB := n5_; clear n0_ n1_ n2_ n3_ n4_ n5_; (try clear hb); (try clear hb2); (try clear hk); (try clear hi); (try clear ho0); obtain ⟨Ao28, co28, eo28⟩ := Kd.R_slice HO134.out; subst eo28; obtain ⟨Ao29, co29, eo29⟩ := Kd.R_slice HO138.out; subst eo29) | (go_at_call 10; (with_reducible refine (api_Pair.calls kj1 _ _ t132 _ _ t136 t140 _ ?side1 ?side2 ?side3 ?side4 A19.out).mono ?_); (case side1 => repeat (first | exact (Kd.R_reads' HO134.out).2.2 | (with_reducible refine Kd.C_alloc ?_ _) | (with_reducible refine Kd.C_drewN ?_ _) | (with_reducible refine Kd.C_drew ?_))); (case side2 => exact (Kd.R_reads' HO134.out).2.1); (case side3 => repeat (first | exact (Kd.R_reads' HO138.out).2.2 | (with_reducible refine Kd.C_alloc ?_ _) | (with_reducible refine Kd.C_drewN ?_ _) | (with_reducible refine Kd.C_drew ?_))); (case side4 => exact (Kd.R_reads' HO138.out).2.1); rintro e w' ⟨rfl, ⟨nd, rfl⟩⟩))
          go_ret
          exact ⟨by first | rfl | (simp [errW_none, errW_some] <;> rfl) | (simp [*, errW_none, errW_some] <;> rfl), by repeat (first | (with_reducible first | exact HB.out | apply below_alloc | apply pw_below_drewN | apply below_drew1 | refine below_set ?_ GE122.out) | exact HB.out)⟩
        · rw [if_neg c18] at H
          have c18b0 : (t135 == t139) = false := beq_eq_false_iff_ne.mpr c18
          have c18b1 : (t135 != t139) = true := bne_iff_ne.mpr c18
          obtain rfl := Option.some.inj H
          try go_wp2
          have n0_ := Aside0.mk (blk_drew BK122.out)
          have n1_ := Aside0.mk (below_drew1 HB.out)
          clear BK122
          clear HB
          have BK122 := n0_
          have HB := n1_
          clear n0_ n1_
          refine start_ (n := 13) (S := fun w' => w'.cell? ⟨gb122, 0, none⟩ = some (.slice A0_0 l0_0.length c0_0) ∧ w'.cell? ⟨gb122, 1, none⟩ = some (.slice A0_1 l0_1.length c0_1)) (ds := []) #[false, false, false, false, false, false, false, false, false, false, false, false, false] (by kernel_rfl) rfl rfl ⟨(blk_cell BK122.out 0).trans rfl, (blk_cell BK122.out 1).trans rfl⟩ (fun hHeld => ?_); refine with_tabW ancepslaw39_UnknownForced.tab3 ancepslaw39_UnknownForced.bits3 (fun HT_ HW_ => ?_)
          generalize wc.drew = w30 at BK122 HB hHeld ⊢
          refine pure_ (i := 0) (N := some 16) (v := ?_) (a' := ?_) #[true, false, false, false, false, false, false, false, false, false, false, false, false] rfl rfl (any_of HT_.out (by kernel_rfl)) (fun _ _ _ h => h) (Or.inl ⟨by rfl, ?_⟩) ?_ ?_
          rotate_left
          · intro w'
            go_simp
            with_reducible rfl
          rotate_left
          · simp only [Act.put, List.setIfInBounds_toArray, List.set_cons_zero, List.set_cons_succ, i64_w]
            rfl
          refine pure_ (i := 3) (N := some 19) (v := ?_) (a' := ?_) #[true, false, false, true, false, false, false, false, false, false, false, false, false] rfl rfl (any_of HT_.out (by kernel_rfl)) (fun _ _ _ h => h) (Or.inl ⟨by rfl, ?_⟩) ?_ ?_
          rotate_left
          · intro w'
            go_simp
            with_reducible rfl
          rotate_left
          · simp only [Act.put, List.setIfInBounds_toArray, List.set_cons_zero, List.set_cons_succ, i64_w]
            rfl
          refine take_ (i := 1) (N := some 17) (v := ?_) (a' := ?_) #[true, true, false, true, false, false, false, false, false, false, false, false, false] rfl rfl (take_ofW HT_.out HW_.out (by kernel_rfl)) (fun _ _ _ h => h) (Or.inl ⟨by rfl, ?_⟩) hHeld ?_ ?_
          rotate_left
          · rintro w' ⟨s0, s1⟩
            go_simp
            with_reducible rfl
          rotate_left
          · simp only [Act.put, List.setIfInBounds_toArray, List.set_cons_zero, List.set_cons_succ, i64_w]
            rfl
          refine take_ (i := 4) (N := some 20) (v := ?_) (a' := ?_) #[true, true, false, true, true, false, false, false, false, false, false, false, false] rfl rfl (take_ofW HT_.out HW_.out (by kernel_rfl)) (fun _ _ _ h => h) (Or.inl ⟨by rfl, ?_⟩) hHeld ?_ ?_
          rotate_left
          · rintro w' ⟨s0, s1⟩
            go_simp
            with_reducible rfl
          rotate_left
          · simp only [Act.put, List.setIfInBounds_toArray, List.set_cons_zero, List.set_cons_succ, i64_w]
            rfl
          refine one_ (i := 2) (N := some 18) #[true, true, true, true, true, false, false, false, false, false, false, false, false] rfl rfl (one_of HT_.out (by kernel_rfl)) (by decide) (fun K hK => ?_)
          refine goes_ Tryz.func8 (by kernel_rfl) rfl #[.slice A0_0 l0_0.length c0_0] (by rfl) rfl rfl (by (try simp only [List.map_toArray, List.map_cons, List.map_nil]); first | done | rfl | (simp only [List.length_drop, List.length_take]; rfl)) ?_
          with_reducible refine (slices_Clone_int_int.calls _ _ l0_0 t126 _ ?side1 ?side2 A14.out).mono ?_
          (case side1 => repeat (first | exact (Kd.C_below HR0_0.out HB.out) | (with_reducible refine Kd.C_alloc ?_ _) | (with_reducible refine Kd.C_drewN ?_ _) | (with_reducible refine Kd.C_drew ?_)))
          (case side2 => exact HC0_0.out)
          rintro e w31 ⟨v127, rfl, ho0, hb⟩
          refine ⟨_, rfl, ?_⟩
          have n0_ := Aside0.mk (Kd.R_lower ho0 (below_size (by repeat (first | (with_reducible first | exact HB.out | apply below_alloc | apply pw_below_drewN | apply below_drew1 | refine below_set ?_ GE122.out) | exact HB.out))))
          have n1_ := Aside0.mk (blk_below (g := gb122) (o := .cells #[.slice A0_0 l0_0.length c0_0, .slice A0_1 l0_1.length c0_1] 24 (0, 0)) (by (with_reducible repeat (first | refine blk_drewN ?_ _ | refine blk_drew ?_ | refine blk_alloc ?_ _)); exact BK122.out) hb)
          have n2_ := Aside0.mk (below_step (by repeat (first | (with_reducible first | exact HB.out | apply below_alloc | apply pw_below_drewN | apply below_drew1 | refine below_set ?_ GE122.out) | exact HB.out)) hb)
          clear BK122
          clear HB
          have HO128 := n0_
          have BK122 := n1_
          have HB := n2_
          clear n0_ n1_ n2_
          (try clear hb)
          (try clear hb2)
          (try clear hk)
          (try clear hi)
          (try clear ho0)
          refine hK.out _ _ ⟨(blk_cell BK122.out 0).trans rfl, (blk_cell BK122.out 1).trans rfl⟩ (fun hHeld => ?_)
          clear hK K
          refine norm_ (a' := ?_) ?_ ?_
          rotate_left
          · show Act.put _ (some 18) _ = _
            simp only [Act.put, List.setIfInBounds_toArray, List.set_cons_zero, List.set_cons_succ, i64_w]
            rfl
          refine one_ (i := 5) (N := some 21) #[true, true, true, true, true, true, false, false, false, false, false, false, false] rfl rfl (one_of HT_.out (by kernel_rfl)) (by decide) (fun K hK => ?_)
          refine goes_ Tryz.func8 (by kernel_rfl) rfl #[.slice A0_1 l0_1.length c0_1] (by rfl) rfl rfl (by (try simp only [List.map_toArray, List.map_cons, List.map_nil]); first | done | rfl | (simp only [List.length_drop, List.length_take]; rfl)) ?_
          with_reducible refine (slices_Clone_int_int.calls _ _ l0_1 t129 _ ?side1 ?side2 A15.out).mono ?_
          (case side1 => repeat (first | exact (Kd.C_below HR0_1.out HB.out) | (with_reducible refine Kd.C_alloc ?_ _) | (with_reducible refine Kd.C_drewN ?_ _) | (with_reducible refine Kd.C_drew ?_)))
          (case side2 => exact HC0_1.out)
          rintro e w32 ⟨v130, rfl, ho0, hb⟩
          refine ⟨_, rfl, ?_⟩
          have n0_ := Aside0.mk (Kd.R_elder' (by (with_reducible repeat (first | apply Kd.R_alloc | apply Kd.R_drewN | apply Kd.R_drew)); exact HO128.out) (Kd.R_base ho0) hb)
          have n1_ := Aside0.mk (Kd.R_lower (Kd.R_new' ho0 (Kd.R_lt (by (with_reducible repeat (first | apply Kd.R_alloc | apply Kd.R_drewN | apply Kd.R_drew)); exact HO128.out))) (below_size (by repeat (first | (with_reducible first | exact HB.out | apply below_alloc | apply pw_below_drewN | apply below_drew1 | refine below_set ?_ GE122.out) | exact HB.out))))
          have n2_ := Aside0.mk (blk_below (g := gb122) (o := .cells #[.slice A0_0 l0_0.length c0_0, .slice A0_1 l0_1.length c0_1] 24 (0, 0)) (by (with_reducible repeat (first | refine blk_drewN ?_ _ | refine blk_drew ?_ | refine blk_alloc ?_ _)); exact BK122.out) hb)
          have n3_ := Aside0.mk (below_step (by repeat (first | (with_reducible first | exact HB.out | apply below_alloc | apply pw_below_drewN | apply below_drew1 | refine below_set ?_ GE122.out) | exact HB.out)) hb)
          clear HO128
          clear BK122
          clear HB
          have HO128 := n0_
          have HO131 := n1_
          have BK122 := n2_
          have HB := n3_
          clear n0_ n1_ n2_ n3_
          (try clear hb)
          (try clear hb2)
          (try clear hk)
          (try clear hi)
          (try clear ho0)
          obtain ⟨Ao33, co33, eo33⟩ := Kd.R_slice HO131.out
          (first | subst eo33 | (injection eo33 with f1_ f2_ f3_; have f4_ := f1_.symm; have f5_ := f3_.symm; clear f1_ f2_ f3_; subst f4_; subst f5_))
          obtain ⟨Ao34, co34, eo34⟩ := Kd.R_slice HO128.out
          (first | subst eo34 | (injection eo34 with f1_ f2_ f3_; have f4_ := f1_.symm; have f5_ := f3_.symm; clear f1_ f2_ f3_; subst f4_; subst f5_))
          refine hK.out _ _ ⟨(blk_cell BK122.out 0).trans rfl, (blk_cell BK122.out 1).trans rfl⟩ (fun hHeld => ?_)
          clear hK K
          refine norm_ (a' := ?_) ?_ ?_
          rotate_left
          · show Act.put _ (some 21) _ = _
            simp only [Act.put, List.setIfInBounds_toArray, List.set_cons_zero, List.set_cons_succ, i64_w]
            rfl
          refine pure_ (i := 6) (N := some 22) (v := ?_) (a' := ?_) #[true, true, true, true, true, true, true, false, false, false, false, false, false] rfl rfl (any_of HT_.out (by kernel_rfl)) (fun _ _ _ h => h) (Or.inl ⟨by rfl, ?_⟩) ?_ ?_
          rotate_left
          · intro w'
            go_simp
            with_reducible rfl
          rotate_left
          · simp only [Act.put, List.setIfInBounds_toArray, List.set_cons_zero, List.set_cons_succ, i64_w]
            rfl
          refine one_ (i := 7) (N := some 23) #[true, true, true, true, true, true, true, true, false, false, false, false, false] rfl rfl (one_of HT_.out (by kernel_rfl)) (by decide) (fun K hK => ?_)
          refine goes_ Tryz.func7 (by kernel_rfl) rfl #[.agg #[.slice Ao34 t126.length co34, .slice Ao33 t129.length co33]] (by rfl) rfl rfl (by (try simp only [List.map_toArray, List.map_cons, List.map_nil]); first | done | rfl | (simp only [List.length_drop, List.length_take]; rfl)) ?_
          with_reducible refine (unknown_Forced.calls kj1 _ _ t126 _ _ t129 t132 t135 _ ?side1 ?side2 ?side3 ?side4 A16.out).mono ?_
          (case side1 => repeat (first | exact (Kd.R_reads' HO128.out).2.2 | (with_reducible refine Kd.C_alloc ?_ _) | (with_reducible refine Kd.C_drewN ?_ _) | (with_reducible refine Kd.C_drew ?_)))
          (case side2 => exact (Kd.R_reads' HO128.out).2.1)
          (case side3 => repeat (first | exact (Kd.R_reads' HO131.out).2.2 | (with_reducible refine Kd.C_alloc ?_ _) | (with_reducible refine Kd.C_drewN ?_ _) | (with_reducible refine Kd.C_drew ?_)))
          (case side4 => exact (Kd.R_reads' HO131.out).2.1)
          rintro e w35 ⟨v133, rfl, ho0, hb⟩
          refine ⟨_, rfl, ?_⟩
          have n0_ := Aside0.mk (Kd.R_below (by (with_reducible repeat (first | apply Kd.R_alloc | apply Kd.R_drewN | apply Kd.R_drew)); exact HO128.out) hb)
          have n1_ := Aside0.mk (Kd.R_below (by (with_reducible repeat (first | apply Kd.R_alloc | apply Kd.R_drewN | apply Kd.R_drew)); exact HO131.out) hb)
          have n2_ := Aside0.mk (Kd.R_lower ho0 (below_size (by repeat (first | (with_reducible first | exact HB.out | apply below_alloc | apply pw_below_drewN | apply below_drew1 | refine below_set ?_ GE122.out) | exact HB.out))))
          have n3_ := Aside0.mk (blk_below (g := gb122) (o := .cells #[.slice A0_0 l0_0.length c0_0, .slice A0_1 l0_1.length c0_1] 24 (0, 0)) (by (with_reducible repeat (first | refine blk_drewN ?_ _ | refine blk_drew ?_ | refine blk_alloc ?_ _)); exact BK122.out) hb)
          have n4_ := Aside0.mk (below_step (by repeat (first | (with_reducible first | exact HB.out | apply below_alloc | apply pw_below_drewN | apply below_drew1 | refine below_set ?_ GE122.out) | exact HB.out)) hb)
          clear HO128
          clear HO131
          clear BK122
          clear HB
          have HO128 := n0_
          have HO131 := n1_
          have HO134 := n2_
          have BK122 := n3_
          have HB := n4_
          clear n0_ n1_ n2_ n3_ n4_
          (try clear hb)
          (try clear hb2)
          (try clear hk)
          (try clear hi)
          (try clear ho0)
          refine hK.out _ _ ⟨(blk_cell BK122.out 0).trans rfl, (blk_cell BK122.out 1).trans rfl⟩ (fun hHeld => ?_)
          clear hK K
          refine norm_ (a' := ?_) ?_ ?_
          rotate_left
          · show Act.put _ (some 23) _ = _
            simp only [Act.put, List.setIfInBounds_toArray, List.set_cons_zero, List.set_cons_succ, i64_w]
            rfl
          refine pure_ (i := 8) (N := some 15) (v := ?_) (a' := ?_) #[true, true, true, true, true, true, true, true, true, false, false, false, false] rfl rfl (any_of HT_.out (by kernel_rfl)) (fun _ _ _ h => h) (Or.inl ⟨by rfl, ?_⟩) ?_ ?_
          rotate_left
          · intro w'
            go_simp
            with_reducible rfl
          rotate_left
          · simp only [Act.put, List.setIfInBounds_toArray, List.set_cons_zero, List.set_cons_succ, i64_w]
            rfl
          refine pure_ (i := 9) (N := some 24) (v := ?_) (a' := ?_) #[true, true, true, true, true, true, true, true, true, true, false, false, false] rfl rfl (any_of HT_.out (by kernel_rfl)) (fun _ _ _ h => h) (Or.inl ⟨by rfl, ?_⟩) ?_ ?_
          rotate_left
          · intro w'
            go_simp
            with_reducible rfl
          rotate_left
          · simp only [Act.put, List.setIfInBounds_toArray, List.set_cons_zero, List.set_cons_succ, i64_w]
            rfl
          refine pure_ (i := 10) (N := some 25) (v := ?_) (a' := ?_) #[true, true, true, true, true, true, true, true, true, true, true, false, false] rfl rfl (any_of HT_.out (by kernel_rfl)) (fun _ _ _ h => h) (Or.inl ⟨by rfl, ?_⟩) ?_ ?_
          rotate_left
          · intro w'
            go_simp
            with_reducible rfl
          rotate_left
          · simp only [Act.put, List.setIfInBounds_toArray, List.set_cons_zero, List.set_cons_succ, i64_w]
            rfl
          refine pure_ (i := 11) (N := some 3) (v := ?_) (a' := ?_) #[true, true, true, true, true, true, true, true, true, true, true, true, false] rfl rfl (any_of HT_.out (by kernel_rfl)) (fun _ _ _ h => h) (Or.inl ⟨by rfl, ?_⟩) ?_ ?_
          rotate_left
          · intro w'
            go_simp
            with_reducible rfl
          rotate_left
          · simp only [Act.put, List.setIfInBounds_toArray, List.set_cons_zero, List.set_cons_succ, i64_w]
            rfl
          refine pure_ (i := 12) (N := some 4) (v := ?_) (a' := ?_) #[true, true, true, true, true, true, true, true, true, true, true, true, true] rfl rfl (any_of HT_.out (by kernel_rfl)) (fun _ _ _ h => h) (Or.inl ⟨by rfl, ?_⟩) ?_ ?_
          rotate_left
          · intro w'
            go_simp
            with_reducible rfl
          rotate_left
          · simp only [Act.put, List.setIfInBounds_toArray, List.set_cons_zero, List.set_cons_succ, i64_w]
            rfl
          refine done_ (done_of HT_.out (by kernel_rfl)) ?_
          have hcz36_0 : w35.cell? ⟨gb122, 0, none⟩ = some (.slice A0_0 l0_0.length c0_0) := (blk_cell BK122.out 0).trans rfl
          have hcz36_1 : w35.cell? ⟨gb122, 1, none⟩ = some (.slice A0_1 l0_1.length c0_1) := (blk_cell BK122.out 1).trans rfl
          have hfz36_0 := blk_frozen BK122.out 0
          have hfz36_1 := blk_frozen BK122.out 1
          try go_wp2_with (first | ((with_reducible refine gate_callee (f := 9) rfl ?_); refine goesL_ (some 28) rfl rfl Tryz.func9 (by kernel_rfl) rfl #[.agg #[.slice A0_0 l0_0.length c0_0, .slice A0_1 l0_1.length c0_1]] rfl (by (try simp only [List.map_toArray, List.map_cons, List.map_nil]); first | done | rfl | (simp only [List.length_drop, List.length_take]; rfl) | (simp only [decide_eq_true_eq, decide_eq_false_iff_not] at *; congr <;> (first | rfl | (refine (congrArg (Value.int .i64) ?_ : Value.int .i64 _ = Value.int .i64 _); unfold wrap64; omega) | fail)) | fail) ?_; (with_reducible refine (ancepsref39_Forced.calls kj1 _ _ l0_0 _ _ l0_1 t136 t139 _ ?side1 ?side2 ?side3 ?side4 A17.out).mono ?_); (case side1 => repeat (first | exact (Kd.C_below HR0_0.out HB.out) | (with_reducible refine Kd.C_alloc ?_ _) | (with_reducible refine Kd.C_drewN ?_ _) | (with_reducible refine Kd.C_drew ?_))); (case side2 => exact HC0_0.out); (case side3 => repeat (first | exact (Kd.C_below HR0_1.out HB.out) | (with_reducible refine Kd.C_alloc ?_ _) | (with_reducible refine Kd.C_drewN ?_ _) | (with_reducible refine Kd.C_drew ?_))); (case side4 => exact HC0_1.out); rintro e w37 ⟨v137, rfl, ho0, hb⟩; refine ⟨_, rfl, ?_⟩; have n0_ := Aside0.mk (Kd.R_below (by (with_reducible repeat (first | apply Kd.R_alloc | apply Kd.R_drewN | apply Kd.R_drew)); exact HO128.out) hb); have n1_ := Aside0.mk (Kd.R_below (by (with_reducible repeat (first | apply Kd.R_alloc | apply Kd.R_drewN | apply Kd.R_drew)); exact HO131.out) hb); have n2_ := Aside0.mk (Kd.R_below (by (with_reducible repeat (first | apply Kd.R_alloc | apply Kd.R_drewN | apply Kd.R_drew)); exact HO134.out) hb); have n3_ := Aside0.mk (Kd.R_lower ho0 (below_size (by repeat (first | (with_reducible first | exact HB.out | apply below_alloc | apply pw_below_drewN | apply below_drew1 | refine below_set ?_ GE122.out) | exact HB.out)))); have n4_ := Aside0.mk (blk_below (g := gb122) (o := .cells #[.slice A0_0 l0_0.length c0_0, .slice A0_1 l0_1.length c0_1] 24 (0, 0)) (by (with_reducible repeat (first | refine blk_drewN ?_ _ | refine blk_drew ?_ | refine blk_alloc ?_ _)); exact BK122.out) hb); have n5_ := Aside0.mk (below_step (by repeat (first | (with_reducible first | exact HB.out | apply below_alloc | apply pw_below_drewN | apply below_drew1 | refine below_set ?_ GE122.out) | exact HB.out)) hb); clear HO128; clear HO131; clear HO134; clear BK122; clear HB; have HO128 := n0_; have HO131 := n1_; have HO134 := n2_; have HO138 := n3_; have BK122 := n4_; have HB := n5_; clear n0_ n1_ n2_ n3_ n4_ n5_; (try clear hb); (try clear hb2); (try clear hk); (try clear hi); (try clear ho0)))
          go_ret
          exact ⟨by first | rfl | (simp [errW_none, errW_some] <;> rfl) | (simp [*, errW_none, errW_some] <;> rfl), by repeat (first | (with_reducible first | exact HB.out | apply below_alloc | apply pw_below_drewN | apply below_drew1 | refine below_set ?_ GE122.out) | exact HB.out)⟩
end Go.Proofs.YtpgmoinalongnaaGreatDoor.U
