/- A part of the proof of the tied card of ProfileMerge (chapter 53): the law returns true whatever the input. -/
import Derived.Test.YtolenfcngomdfaaGreatDoorZU1
set_option linter.unusedVariables false
set_option linter.unusedSimpArgs false
namespace Go.Proofs.YtolenfcngomdfaaGreatDoor.V
open Go.RowKit Go.Proofs.YtolenfcngomdfaaGreatDoorW.PrintWords Go.Proofs.YtolenfcngomdfaaGreatDoorW.PrintLast Go.Proofs.YtolenfcngomdfaaGreatDoorW.PrintMore
set_option linter.unusedVariables false
set_option linter.unusedSimpArgs false
section
variable {α : Type} {d : Kd α} {e base : Nat} {w w0 w1 : World} {v : Value} {xs : List α}
theorem rdb {p : Prop} (h : p := by first | exact (Kd.C_below (Aside0.out (by assumption)) bel) | exact rdc) : p := h
/-- What a block holds, through stores. -/
theorem sb {g : Nat} {o : Obj} (h : w.heap[g]? = some o := by repeat (with_reducible first | exact (Aside0.out (by assumption)) | apply qs | apply far1 | apply blk_drewN | apply blk_drew | apply blk_alloc)) : w.heap[g]? = some o := h
theorem set2 {g : Nat} {t : TypeId} {a b a' b' : Value} (h : w.heap[g]? = some (.cells #[a, b] t (0, 0))) : ((w.setCell ⟨g, 0, none⟩ a').setCell ⟨g, 1, none⟩ b').heap[g]? = some (.cells #[a', b'] t (0, 0)) := blk_put (blk_put h 0 a' rfl) 1 b' rfl
theorem set4 {g : Nat} {t : TypeId} {a b c d a' b' c' d' : Value} (h : w.heap[g]? = some (.cells #[a, b, c, d] t (0, 0))) : ((((w.setCell ⟨g, 0, none⟩ a').setCell ⟨g, 1, none⟩ b').setCell ⟨g, 2, none⟩ c').setCell ⟨g, 3, none⟩ d').heap[g]? = some (.cells #[a', b', c', d'] t (0, 0)) := blk_put (blk_put (blk_put (blk_put h 0 a' rfl) 1 b' rfl) 2 c' rfl) 3 d' rfl
theorem nb0 {g : Nat} {t : TypeId} {a b x : Value} {f : Nat × Nat} (h : Aside0 (w.heap[g]? = some (.cells (#[a, b].setIfInBounds 0 x) t f))) : Aside0 (w.heap[g]? = some (.cells #[x, b] t f)) := h
theorem nb2 {g : Nat} {t : TypeId} {a b x y : Value} {f : Nat × Nat} (h : Aside0 (w.heap[g]? = some (.cells ((#[a, b].setIfInBounds 0 x).setIfInBounds 1 y) t f))) : Aside0 (w.heap[g]? = some (.cells #[x, y] t f)) := h
theorem nb1 {g : Nat} {t : TypeId} {a b x : Value} {f : Nat × Nat} (h : Aside0 (w.heap[g]? = some (.cells (#[a, b].setIfInBounds 1 x) t f))) : Aside0 (w.heap[g]? = some (.cells #[a, x] t f)) := h
/-- A cell that was there at the start. -/
theorem oc1 {W0 W : World} {a : Addr} {x : Value} (h : Aside0 (W0.cell? a = some x)) (hb : Below W0.heap.size W0 W := by exact bel) : W.cell? a = some x := (hb.cell (World.block_lt_of_cell? W0 _ h.out)).trans h.out
theorem hc {g : Nat} {cs : Array Value} {t : TypeId} (i : Nat) (B : w.heap[g]? = some (.cells cs t (0, 0)) := by repeat (with_reducible first | exact (Aside0.out (by assumption)) | apply qs | apply far1 | apply blk_drewN | apply blk_drew | apply blk_alloc)) (hv : cs[i]? = some v := by rfl) : w.cell? ⟨g, i, none⟩ = some v := (blk_cell B i).trans hv
theorem rfar {g i t : Nat} {cs : Array Value} {u : Value} (h : d.R e w base (fun _ => True) v xs) (B : w.heap[g]? = some (.cells cs t (0, 0))) (hne : ∀ q, q ∈ e :: d.E → q ≠ t) : d.R e (w.setCell ⟨g, i, none⟩ u) base (fun _ => True) v xs :=
  Kd.R_mono (Kd.R_far (p := ⟨g, i, none⟩) (Kd.R_types h B hne) (fun _ hk => hk.2) u) (fun _ _ => trivial)
theorem rx (h : d.R e w base (fun _ => True) v xs := by repeat (first | (with_reducible first | exact (Aside0.out (by assumption)) | apply Kd.R_alloc | apply Kd.R_drewN | apply Kd.R_drew) | refine rfar ?_ sb (by decide))) : d.R e w base (fun _ => True) v xs := h
theorem rbl (H : Aside0 (d.R e w0 base (fun _ => True) v xs)) (hb : Below w.heap.size w w1) (h : d.R e w base (fun _ => True) v xs := by exact rx) : Aside0 (d.R e w1 base (fun _ => True) v xs) := ⟨Kd.R_below h hb⟩
theorem rC {A : Option Addr} {n c : Nat} (H : Aside0 (d.R e w0 base (fun _ => True) (.slice A n c) xs)) (h : d.R e w base (fun _ => True) (.slice A n c) xs := by exact rx) : d.C w A xs.length xs := (Kd.R_reads' h).2.2
theorem rL {A : Option Addr} {n c : Nat} (H : Aside0 (d.R e w0 base (fun _ => True) (.slice A n c) xs)) : n ≤ c := (Kd.R_reads' H.out).2.1
theorem rlo (ho : d.R e w1 w.heap.size (fun _ => True) v xs) (h : Below w0.heap.size w0 w := by exact bel) : Aside0 (d.R e w1 w0.heap.size (fun _ => True) v xs) := ⟨Kd.R_lower ho (below_size h)⟩
end
section
variable {P : Program} {ops : Array Oper} {a : Act} {w : World} {Q : Exit → Act → World → Prop} {S : World → Prop} {ds : List Nat} {md : Region.Mode} {T : Bool × List (List Nat × List Nat)} {B : List Nat} {fuel : Nat} {l l' : Array Bool}
theorem stt {id : Nat} (n : Nat) (S : World → Prop) (ds : List Nat) (T : Bool × List (List Nat × List Nat)) (B : List Nat) (hT : rtab .any ops = T) (hB : waitsOk T.2 B = true) (hS : S w.drew)
    (h : ∀ W, Below w.heap.size w W → S W → Aside0 (rtab .any ops = T) → Aside0 (waitsOk T.2 B = true) → wpAnyLast P .any ops Q S ds n l a W) (hn : ops.size = n := by rfl) (hl : Array.replicate n false = l := by (simp only [Array.replicate_succ, Array.replicate_zero, List.push_toArray, List.nil_append, List.cons_append]; exact rfl)) (hm : P.follows .mixedOrders = true := by kernel_rfl) : (Code.region id ops true).wp P Q a w :=
  start_ _ hm hn hl hS fun h1 => h _ (below_drew1 (Below.refl _ _)) h1 ⟨hT⟩ ⟨hB⟩
theorem nrm {a' : Act} (h : wpAnyLast P md ops Q S ds fuel l a' w) (ha : a = a' := by (simp only [Act.put, List.setIfInBounds_toArray, List.set_cons_zero, List.set_cons_succ, i64_w]; rfl)) : wpAnyLast P md ops Q S ds fuel l a w := norm_ ha h
theorem one_T {i : Nat} (hT : rtab md ops = T) (hl : (l.toList.set i true).toArray = l') (hc : readyT T.2 l.toList = [i]) : readyB md ops l l' i = true := one_of hT (by subst hl; simp [hc])
/-- A call of a Go function, the only one that may come up. -/
theorem cal (i : Nat) {N : Option Tmp} {oi : Oper} {f : FuncId} {fn : Func} {zs : Array Operand} {ts : Array TypeId} (hf : P.funcs[f]? = some fn) (args : Array Value)
    (h : Calls P f args w fun e w' => ∃ v, e = .returned v ∧ S w' ∧ (S w' → wpAnyLast P md ops Q S ds fuel l' (a.put N v) w'))
    (hi : ops[i]? = some oi := by (simp only [List.getElem?_toArray, List.getElem?_cons_succ, List.getElem?_cons_zero]; exact rfl)) (hN : oi.dst = N := by exact rfl) (hl : (l.toList.set i true).toArray = l' := by (simp only [List.set_cons_succ, List.set_cons_zero]; exact rfl)) (hT : rtab md ops = T := by exact (Aside0.out (by assumption))) (hc : readyT T.2 l.toList = [i] := by kernel_rfl) (hd : i ∉ ds := by decide)
    (hname : (fn.name == "runtime.NumGoroutine") = false := by kernel_rfl) (hb : fn.body.isSome = true := by rfl) (hw : Region.wanted oi (yielded ops a.tmps) = true := by rfl) (hop : oi.op = .call { callee := .value (.func f), args := zs, argTypes := ts } := by rfl) (hargs : zs.map a.eval = args := by (simp only [List.map_toArray, List.map_cons, List.map_nil]; exact rfl)) :
    wpAnyLast P md ops Q S ds (fuel + 1) l a w :=
  one_ l' hi hN (one_T hT hl hc) hd fun K hK => goes_ hf hname hb args hw hN hop hargs (h.mono fun e w' ⟨v, h1, h2, h3⟩ => ⟨v, h1, hK _ _ h2 h3⟩)
/-- A value that takes memory, the only operation that may come up. -/
theorem vlu (i : Nat) {N : Option Tmp} {oi : Oper} {v : Value} {w1 : World} (h : S w1 ∧ (S w1 → wpAnyLast P md ops Q S ds fuel l' (a.put N v) w1))
    (hi : ops[i]? = some oi := by (simp only [List.getElem?_toArray, List.getElem?_cons_succ, List.getElem?_cons_zero]; exact rfl)) (hN : oi.dst = N := by exact rfl) (hl : (l.toList.set i true).toArray = l' := by (simp only [List.set_cons_succ, List.set_cons_zero]; exact rfl)) (hT : rtab md ops = T := by exact (Aside0.out (by assumption))) (hc : readyT T.2 l.toList = [i] := by kernel_rfl) (hd : i ∉ ds := by decide)
    (hw : Region.wanted oi (yielded ops a.tmps) = true := by rfl) (hrun : (execOp a.eval oi).run P w = .ok (.value v) w1 := by (go_simp; constructor; rfl; rfl)) : wpAnyLast P md ops Q S ds (fuel + 1) l a w :=
  one_ l' hi hN (one_T hT hl hc) hd fun K hK => value_ hw hN hrun (hK _ _ h.1 h.2)
theorem sto (i : Nat) {oi : Oper} {w1 : World} (h : S w1 ∧ (S w1 → wpAnyLast P md ops Q S ds fuel l' a w1))
    (hi : ops[i]? = some oi := by (simp only [List.getElem?_toArray, List.getElem?_cons_succ, List.getElem?_cons_zero]; exact rfl)) (hN : oi.dst = none := by exact rfl) (hl : (l.toList.set i true).toArray = l' := by (simp only [List.set_cons_succ, List.set_cons_zero]; exact rfl)) (hT : rtab md ops = T := by exact (Aside0.out (by assumption))) (hc : readyT T.2 l.toList = [i] := by kernel_rfl) (hd : i ∉ ds := by decide)
    (hw : Region.wanted oi (yielded ops a.tmps) = true := by rfl) (hrun : (execOp a.eval oi).run P w = .ok .skip w1 := by (go_simp; rfl)) : wpAnyLast P md ops Q S ds (fuel + 1) l a w :=
  one_ l' hi hN (one_T hT hl hc) hd fun K hK => skip_ hw hN hrun (hK _ _ h.1 h.2)
theorem dne (h : Q .normal a w) (hT : rtab md ops = T := by exact (Aside0.out (by assumption))) (hz : readyT T.2 l.toList = [] := by kernel_rfl) : wpAnyLast P md ops Q S ds fuel l a w := done_ (done_of hT (by simp [hz])) h
/-- The last store. -/
theorem lst (i : Nat) {oi : Oper} {w1 : World} (h : Q .normal a w1)
    (hi : ops[i]? = some oi := by (simp only [List.getElem?_toArray, List.getElem?_cons_succ, List.getElem?_cons_zero]; exact rfl)) (hN : oi.dst = none := by exact rfl) (hT : rtab md ops = T := by exact (Aside0.out (by assumption))) (hc : readyT T.2 l.toList = [i] := by kernel_rfl) (hd : i ∈ ds := by decide) (hz : readyT T.2 (l.toList.set i true) = [] := by kernel_rfl)
    (hw : Region.wanted oi (yielded ops a.tmps) = true := by rfl) (hrun : (execOp a.eval oi).run P w = .ok .skip w1 := by (go_simp; rfl)) : wpAnyLast P md ops Q S ds (fuel + 1) l a w :=
  last_ _ hi hN (one_T hT rfl hc) hd fun K hK => skip_ hw hN hrun (hK _ _ (done_ (done_of hT (by simp [hz])) h))
end
end Go.Proofs.YtolenfcngomdfaaGreatDoor.V
namespace Go.Proofs.YtolenfcngomdfaaGreatDoor.V
open Go.RowKit Go.Proofs.YtolenfcngomdfaaGreatDoorW.PrintWords Go.Proofs.YtolenfcngomdfaaGreatDoorW.PrintLast Go.Proofs.YtolenfcngomdfaaGreatDoorW.PrintMore
set_option linter.unusedVariables false
set_option linter.unusedSimpArgs false
abbrev RS (W w : World) (v : Value) (xs : List ByteArray) : Prop := Kd.R Kd.string 9 W w.heap.size (fun _ => True) v xs
abbrev RI (W w : World) (v : Value) (xs : List Int) : Prop := Kd.R (Kd.int .i64) 3 W w.heap.size (fun _ => True) v xs
section
variable {α β : Type} {d : Kd α} {d' : Kd β} {e e' base base' : Nat} {w W w1 : World} {u v : Value} {xs : List α} {ys : List β} {ok : Nat → Prop}
theorem rgr (H : Aside0 (d.R e w base (fun _ => True) u xs)) (hs : d'.R e' W base' ok v ys) (hg : W.grownBy w1 v.ownBlock) (ht : ∀ q, q ∈ e :: d.E → q ≠ e' := by decide) (h : d.R e W base (fun _ => True) u xs := by exact rx) : Aside0 (d.R e w1 base (fun _ => True) u xs) := ⟨Kd.R_over' h (Kd.R_typed hs) ht hg⟩
theorem bgr (g : Nat) {cs : Array Value} {t : TypeId} (hs : d'.R e' W base' ok v ys) (hg : W.grownBy w1 v.ownBlock) (h : W.heap[g]? = some (.cells cs t (0, 0)) := by exact sb) (ht : e' ≠ t := by decide) : Aside0 (w1.heap[g]? = some (.cells cs t (0, 0))) := ⟨blk_grown h hg (Kd.R_ne hs h ht)⟩
end
section
variable {ops : Array Oper} {rest : List Oper} {o : Oper} {a : Act} {Q : Exit → Act → World → Prop} {W w : World} {v : Value}
theorem apS {xs : List ByteArray} {p : ByteArray} (s x : Tmp) {W0 : World} (O : Aside0 (RS W0 w v xs)) (L : Aside0 (xs.length < 8796093022208))
    (h : ∀ v1 w1, Aside0 (RS w1 w v1 (xs ++ [p])) → Aside0 (Below w.heap.size w w1) → RS W w v xs → W.grownBy w1 v.ownBlock → wpList Tryz.prog ops Q rest (a.put o.dst v1) w1)
    (hgd : o.guard = none := by rfl) (ho : o.op = .call { callee := .builtin .append, args := #[.tmp s, .tmp x], argTypes := #[23, 23] } := by rfl) (hs : a.eval (.tmp s) = v := by rfl) (hx : a.eval (.tmp x) = .slice (some ⟨W.heap.size, 0, none⟩) 1 1 := by first | rfl | (go_simp; done) | (go_simp; rfl))
    (HO : RS W w v xs := by exact rx) (HB : Below w.heap.size w W := by exact bel) : wpList Tryz.prog ops Q (o :: rest) a (W.alloc (.cells [.string p].toArray 9)) :=
  Kd.R_append Kd.string w.heap.size hgd (.tmp s) (.tmp x) 23 9 (.string ⟨#[]⟩) 16 ho Tryz.underlying23 info9 rfl (by decide) (by omega) v xs p [.string p] (fun _ => True) (fun _ => False) hs hx rfl (fun _ hk => hk.elim) (fun _ _ => trivial) HO HB (below_size HB) (by have := L.out; omega)
    fun v1 w1 h1 h2 h3 _ => h v1 w1 ⟨h1⟩ ⟨h2⟩ HO h3
theorem apI {xs : List Int} {p : Int} (s x : Tmp) {W0 : World} (O : Aside0 (RI W0 w v xs)) (L : Aside0 (xs.length < 17592186044416))
    (h : ∀ v1 w1, Aside0 (RI w1 w v1 (xs ++ [p])) → Aside0 (Below w.heap.size w w1) → RI W w v xs → W.grownBy w1 v.ownBlock → wpList Tryz.prog ops Q rest (a.put o.dst v1) w1)
    (hgd : o.guard = none := by rfl) (ho : o.op = .call { callee := .builtin .append, args := #[.tmp s, .tmp x], argTypes := #[24, 24] } := by rfl) (hs : a.eval (.tmp s) = v := by rfl) (hx : a.eval (.tmp x) = .slice (some ⟨W.heap.size, 0, none⟩) 1 1 := by first | rfl | (go_simp; done) | (go_simp; rfl))
    (HO : RI W w v xs := by exact rx) (HB : Below w.heap.size w W := by exact bel) : wpList Tryz.prog ops Q (o :: rest) a (W.alloc (.cells [.int .i64 p].toArray 3)) :=
  Kd.R_append (Kd.int .i64) w.heap.size hgd (.tmp s) (.tmp x) 24 3 (.int .i64 0) 8 ho Tryz.underlying24 info3 rfl (by decide) (by omega) v xs p [.int .i64 p] (fun _ => True) (fun _ => False) hs hx rfl (fun _ hk => hk.elim) (fun _ _ => trivial) HO HB (below_size HB) (by have := L.out; omega)
    fun v1 w1 h1 h2 h3 _ => h v1 w1 ⟨h1⟩ ⟨h2⟩ HO h3
end
section
variable {ops : Array Oper} {a : Act} {W w : World} {Q : Exit → Act → World → Prop} {S : World → Prop} {ds : List Nat} {md : Region.Mode} {T : Bool × List (List Nat × List Nat)} {fuel : Nat} {l l' : Array Bool} {v : Value}
/-- In a region that draws its order: the only operation that may come up. -/
theorem dpS {xs : List ByteArray} {p : ByteArray} (i : Nat) {N : Option Tmp} {oi : Oper} {s x : Tmp} {W0 : World} (O : Aside0 (RS W0 w v xs)) (L : Aside0 (xs.length < 8796093022208))
    (h : ∀ v1 w1, Aside0 (RS w1 w v1 (xs ++ [p])) → Aside0 (Below w.heap.size w w1) → RS W w v xs → W.grownBy w1 v.ownBlock → S w1 ∧ (S w1 → wpAnyLast Tryz.prog md ops Q S ds fuel l' (a.put N v1) w1))
    (hi : ops[i]? = some oi := by (simp only [List.getElem?_toArray, List.getElem?_cons_succ, List.getElem?_cons_zero]; exact rfl)) (hN : oi.dst = N := by exact rfl) (hl : (l.toList.set i true).toArray = l' := by (simp only [List.set_cons_succ, List.set_cons_zero]; exact rfl)) (hT : rtab md ops = T := by exact (Aside0.out (by assumption))) (hc : readyT T.2 l.toList = [i] := by kernel_rfl) (hd : i ∉ ds := by decide) (hw : Region.wanted oi (yielded ops a.tmps) = true := by rfl)
    (ho : oi.op = .call { callee := .builtin .append, args := #[.tmp s, .tmp x], argTypes := #[23, 23] } := by rfl) (hs : a.eval (.tmp s) = v := by rfl) (hx : a.eval (.tmp x) = .slice (some ⟨W.heap.size, 0, none⟩) 1 1 := by first | rfl | (go_simp; done) | (go_simp; rfl))
    (HO : RS W w v xs := by exact rx) (HB : Below w.heap.size w W := by exact bel) : wpAnyLast Tryz.prog md ops Q S ds (fuel + 1) l a (W.alloc (.cells [.string p].toArray 9)) :=
  one_ l' hi hN (one_T hT hl hc) hd fun K hK => by
    subst hN
    exact Kd.R_append_step Kd.string w.heap.size hw (.tmp s) (.tmp x) 23 9 (.string ⟨#[]⟩) 16 ho Tryz.underlying23 info9 rfl (by decide) (by omega) v xs p [.string p] (fun _ => True) (fun _ => False) hs hx rfl (fun _ hk => hk.elim) (fun _ _ => trivial) HO HB (below_size HB) (by have := L.out; omega)
      fun v1 w1 h1 h2 h3 _ => hK _ _ (h v1 w1 ⟨h1⟩ ⟨h2⟩ HO h3).1 (h v1 w1 ⟨h1⟩ ⟨h2⟩ HO h3).2
theorem dpI {xs : List Int} {p : Int} (i : Nat) {N : Option Tmp} {oi : Oper} {s x : Tmp} {W0 : World} (O : Aside0 (RI W0 w v xs)) (L : Aside0 (xs.length < 17592186044416))
    (h : ∀ v1 w1, Aside0 (RI w1 w v1 (xs ++ [p])) → Aside0 (Below w.heap.size w w1) → RI W w v xs → W.grownBy w1 v.ownBlock → S w1 ∧ (S w1 → wpAnyLast Tryz.prog md ops Q S ds fuel l' (a.put N v1) w1))
    (hi : ops[i]? = some oi := by (simp only [List.getElem?_toArray, List.getElem?_cons_succ, List.getElem?_cons_zero]; exact rfl)) (hN : oi.dst = N := by exact rfl) (hl : (l.toList.set i true).toArray = l' := by (simp only [List.set_cons_succ, List.set_cons_zero]; exact rfl)) (hT : rtab md ops = T := by exact (Aside0.out (by assumption))) (hc : readyT T.2 l.toList = [i] := by kernel_rfl) (hd : i ∉ ds := by decide) (hw : Region.wanted oi (yielded ops a.tmps) = true := by rfl)
    (ho : oi.op = .call { callee := .builtin .append, args := #[.tmp s, .tmp x], argTypes := #[24, 24] } := by rfl) (hs : a.eval (.tmp s) = v := by rfl) (hx : a.eval (.tmp x) = .slice (some ⟨W.heap.size, 0, none⟩) 1 1 := by first | rfl | (go_simp; done) | (go_simp; rfl))
    (HO : RI W w v xs := by exact rx) (HB : Below w.heap.size w W := by exact bel) : wpAnyLast Tryz.prog md ops Q S ds (fuel + 1) l a (W.alloc (.cells [.int .i64 p].toArray 3)) :=
  one_ l' hi hN (one_T hT hl hc) hd fun K hK => by
    subst hN
    exact Kd.R_append_step (Kd.int .i64) w.heap.size hw (.tmp s) (.tmp x) 24 3 (.int .i64 0) 8 ho Tryz.underlying24 info3 rfl (by decide) (by omega) v xs p [.int .i64 p] (fun _ => True) (fun _ => False) hs hx rfl (fun _ hk => hk.elim) (fun _ _ => trivial) HO HB (below_size HB) (by have := L.out; omega)
      fun v1 w1 h1 h2 h3 _ => hK _ _ (h v1 w1 ⟨h1⟩ ⟨h2⟩ HO h3).1 (h v1 w1 ⟨h1⟩ ⟨h2⟩ HO h3).2
theorem dlV (i : Nat) {N : Tmp} {oi : Oper} (h : ∀ v1 w1, Kd.R k72 72 w1 W.heap.size (fun _ => True) v1 [] → Below W.heap.size W w1 → S w1 ∧ (S w1 → wpAnyLast Tryz.prog md ops Q S ds fuel l' (a.put (some N) v1) w1))
    (hi : ops[i]? = some oi := by (simp only [List.getElem?_toArray, List.getElem?_cons_succ, List.getElem?_cons_zero]; exact rfl)) (hN : oi.dst = some N := by exact rfl) (hl : (l.toList.set i true).toArray = l' := by (simp only [List.set_cons_succ, List.set_cons_zero]; exact rfl)) (hT : rtab md ops = T := by exact (Aside0.out (by assumption))) (hc : readyT T.2 l.toList = [i] := by kernel_rfl) (hd : i ∉ ds := by decide) (hw : Region.wanted oi (yielded ops a.tmps) = true := by rfl)
    (hrun : (execOp a.eval oi).run Tryz.prog W = .ok (.value (.slice (some ⟨W.heap.size, 0, none⟩) 0 0)) (W.alloc (.cells #[] 72)) := by first | (go_simp; done) | (go_simp; rfl)) : wpAnyLast Tryz.prog md ops Q S ds (fuel + 1) l a W :=
  one_ l' hi hN (one_T hT hl hc) hd fun K hK => by
    have hN' := hN
    refine (congrArg (fun N' => if Region.wanted oi (yielded ops a.tmps) = true then Oper.wp Tryz.prog oi a W K Q else K (a.put N' undef) W) hN).mp ?_
    exact Kd.R_lit_step k72 (w0 := W) W.heap.size 72 hw hN (xs := []) (inner := []) (ok := fun _ => True) (okp := fun _ => True) hrun (Reps.none _ _) (fun _ hk => hk) trivial (Below.refl _ _) (Nat.le_refl _) (by simp)
      fun v1 w1 h1 h2 _ _ => by rw [hN]; exact hK _ _ (h v1 w1 h1 h2).1 (h v1 w1 h1 h2).2
theorem dpV {xs : List S72} (i : Nat) {N : Option Tmp} {oi : Oper} {s x : Tmp} {W0 : World} (O : Aside0 (Kd.R k72 72 W0 w.heap.size (fun _ => True) v xs)) (A : Option Addr) (c : Nat) (ys : List S72) (hC : Kd.C k72 W A ys.length ys) (L : Aside0 (xs.length + ys.length < 4398046511104))
    (h : ∀ v1 w1, Aside0 (Kd.R k72 72 w1 w.heap.size (fun _ => True) v1 (xs ++ ys)) → Aside0 (Below w.heap.size w w1) → Kd.R k72 72 W w.heap.size (fun _ => True) v xs → W.grownBy w1 v.ownBlock → S w1 ∧ (S w1 → wpAnyLast Tryz.prog md ops Q S ds fuel l' (a.put N v1) w1))
    (hi : ops[i]? = some oi := by (simp only [List.getElem?_toArray, List.getElem?_cons_succ, List.getElem?_cons_zero]; exact rfl)) (hN : oi.dst = N := by exact rfl) (hl : (l.toList.set i true).toArray = l' := by (simp only [List.set_cons_succ, List.set_cons_zero]; exact rfl)) (hT : rtab md ops = T := by exact (Aside0.out (by assumption))) (hc : readyT T.2 l.toList = [i] := by kernel_rfl) (hd : i ∉ ds := by decide) (hw : Region.wanted oi (yielded ops a.tmps) = true := by rfl)
    (ho : oi.op = .call { callee := .builtin .append, args := #[.tmp s, .tmp x], argTypes := #[22, 22] } := by rfl) (hs : a.eval (.tmp s) = v := by rfl) (hx : a.eval (.tmp x) = .slice A ys.length c := by first | rfl | (go_simp; done) | (go_simp; rfl))
    (HO : Kd.R k72 72 W w.heap.size (fun _ => True) v xs := by exact rx) (HB : Below w.heap.size w W := by exact bel) : wpAnyLast Tryz.prog md ops Q S ds (fuel + 1) l a W :=
  one_ l' hi hN (one_T hT hl hc) hd fun K hK => by
    subst hN
    exact Kd.R_append_rows_step k72 w.heap.size hw (.tmp s) (.tmp x) 22 72 (.agg #[(.string ⟨#[]⟩), (.string ⟨#[]⟩)]) 32 ho Tryz.underlying22 info72 rfl (by decide) (by omega) v xs ys A ys.length c (fun _ => True) (fun _ => False) hs hx HO hC (fun _ _ h => h) (fun _ hk => hk.elim) (fun _ _ => trivial) HB (below_size HB) (by have := L.out; omega)
      fun v1 w1 h1 h2 h3 _ => hK _ _ (h v1 w1 ⟨h1⟩ ⟨h2⟩ HO h3).1 (h v1 w1 ⟨h1⟩ ⟨h2⟩ HO h3).2
end
end Go.Proofs.YtolenfcngomdfaaGreatDoor.V
namespace Go.Proofs.YtolenfcngomdfaaGreatDoor.V
open Go.RowKit Go.Proofs.YtolenfcngomdfaaGreatDoorW.PrintWords Go.Proofs.YtolenfcngomdfaaGreatDoorW.PrintLast Go.Proofs.YtolenfcngomdfaaGreatDoorW.PrintMore
set_option linter.unusedVariables false
set_option linter.unusedSimpArgs false
section
variable {P : Program} {ops : Array Oper} {a : Act} {w : World} {Q : Exit → Act → World → Prop} {S : World → Prop} {ds : List Nat} {md : Region.Mode} {T : Bool × List (List Nat × List Nat)} {fuel : Nat} {l l' lj : Array Bool}
theorem onA (i : Nat) {N : Option Tmp} {oi : Oper}
    (h : ∀ K : Act → World → Prop, Shut (∀ a' w', S w' → (S w' → wpAnyLast P md ops Q S ds fuel l' a' w') → K a' w') → if Region.wanted oi (yielded ops a.tmps) = true then Oper.wp P oi a w K Q else K (a.put N undef) w)
    (hi : ops[i]? = some oi := by (simp only [List.getElem?_toArray, List.getElem?_cons_succ, List.getElem?_cons_zero]; exact rfl)) (hN : oi.dst = N := by exact rfl) (hl : (l.toList.set i true).toArray = l' := by (simp only [List.set_cons_succ, List.set_cons_zero]; exact rfl)) (hT : rtab md ops = T := by exact (Aside0.out (by assumption))) (hc : readyT T.2 l.toList = [i] := by kernel_rfl) (hd : i ∉ ds := by decide) : wpAnyLast P md ops Q S ds (fuel + 1) l a w :=
  one_ l' hi hN (one_T hT hl hc) hd h
theorem twA (i j : Nat) {N M : Option Tmp} {oi oj : Oper}
    (h : ∀ K : Act → World → Prop, Shut (∀ a' w', S w' → (S w' → wpAnyLast P md ops Q S ds fuel l' a' w') → K a' w') → if Region.wanted oi (yielded ops a.tmps) = true then Oper.wp P oi a w K Q else K (a.put N undef) w)
    (h2 : ∀ K : Act → World → Prop, Shut (∀ a' w', S w' → (S w' → wpAnyLast P md ops Q S ds fuel lj a' w') → K a' w') → if Region.wanted oj (yielded ops a.tmps) = true then Oper.wp P oj a w K Q else K (a.put M undef) w)
    (hi : ops[i]? = some oi := by (simp only [List.getElem?_toArray, List.getElem?_cons_succ, List.getElem?_cons_zero]; exact rfl)) (hj : ops[j]? = some oj := by (simp only [List.getElem?_toArray, List.getElem?_cons_succ, List.getElem?_cons_zero]; exact rfl)) (hN : oi.dst = N := by exact rfl) (hM : oj.dst = M := by exact rfl)
    (hl : (l.toList.set i true).toArray = l' := by (simp only [List.set_cons_succ, List.set_cons_zero]; exact rfl)) (hlj : (l.toList.set j true).toArray = lj := by (simp only [List.set_cons_succ, List.set_cons_zero]; exact rfl)) (hT : rtab md ops = T := by exact (Aside0.out (by assumption))) (hc : readyT T.2 l.toList = [i, j] := by kernel_rfl) (hd : i ∉ ds := by decide) (hd2 : j ∉ ds := by decide) : wpAnyLast P md ops Q S ds (fuel + 1) l a w :=
  two_ l' lj hi hj hN hM (two_of hT (by subst hl hlj; simp [hc])) hd hd2 h h2
/-- A store of ds that is not the last. -/
theorem lst0 (i : Nat) {oi : Oper} {w1 : World} (h : wpAnyLast P md ops Q S ds fuel l' a w1)
    (hi : ops[i]? = some oi := by (simp only [List.getElem?_toArray, List.getElem?_cons_succ, List.getElem?_cons_zero]; exact rfl)) (hN : oi.dst = none := by exact rfl) (hl : (l.toList.set i true).toArray = l' := by (simp only [List.set_cons_succ, List.set_cons_zero]; exact rfl)) (hT : rtab md ops = T := by exact (Aside0.out (by assumption))) (hc : readyT T.2 l.toList = [i] := by kernel_rfl) (hd : i ∈ ds := by decide)
    (hw : Region.wanted oi (yielded ops a.tmps) = true := by rfl) (hrun : (execOp a.eval oi).run P w = .ok .skip w1 := by (go_simp; rfl)) : wpAnyLast P md ops Q S ds (fuel + 1) l a w :=
  last_ l' hi hN (one_T hT hl hc) hd fun K hK => skip_ hw hN hrun (hK _ _ h)
theorem nrp {a' : Act} (h : wpAnyLast P md ops Q S ds fuel l a' w) (ha : a = a' := by first | (simp only [putAll, Act.put, List.setIfInBounds_toArray, List.set_cons_zero, List.set_cons_succ]; done) | (simp only [putAll, Act.put, List.setIfInBounds_toArray, List.set_cons_zero, List.set_cons_succ]; rfl)) : wpAnyLast P md ops Q S ds fuel l a w := norm_ ha h
end
section
variable {ops : Array Oper} {a : Act} {W w : World} {Q : Exit → Act → World → Prop} {S : World → Prop} {ds : List Nat} {md : Region.Mode} {fuel : Nat} {l' : Array Bool} {v : Value} {N : Tmp} {oi : Oper} {K : Act → World → Prop}
theorem kcal {N : Option Tmp} {P : Program} {K : Act → World → Prop} (hK : Shut (∀ a' w', S w' → (S w' → wpAnyLast P md ops Q S ds fuel l' a' w') → K a' w')) {f : FuncId} {fn : Func} {zs : Array Operand} {ts : Array TypeId} (hf : P.funcs[f]? = some fn) (args : Array Value)
    (h : Calls P f args W fun e w' => ∃ v, e = .returned v ∧ S w' ∧ (S w' → wpAnyLast P md ops Q S ds fuel l' (a.put N v) w')) (hN : oi.dst = N := by exact rfl)
    (hname : (fn.name == "runtime.NumGoroutine") = false := by kernel_rfl) (hb : fn.body.isSome = true := by rfl) (hw : Region.wanted oi (yielded ops a.tmps) = true := by rfl) (hop : oi.op = .call { callee := .value (.func f), args := zs, argTypes := ts } := by rfl) (hargs : zs.map a.eval = args := by (simp only [List.map_toArray, List.map_cons, List.map_nil]; exact rfl)) :
    if Region.wanted oi (yielded ops a.tmps) = true then Oper.wp P oi a W K Q else K (a.put N undef) W :=
  goes_ hf hname hb args hw hN hop hargs (h.mono fun e w' ⟨v, h1, h2, h3⟩ => ⟨v, h1, hK _ _ h2 h3⟩)
theorem kbx {P : Program} {K : Act → World → Prop} (hK : Shut (∀ a' w', S w' → (S w' → wpAnyLast P md ops Q S ds fuel l' a' w') → K a' w')) (cs : Array Value) (t : TypeId)
    (h : ∀ g, g = W.heap.size → ∀ w1, w1.heap[g]? = some (.cells cs t (0, 0)) → Below W.heap.size W w1 → S w1 ∧ (S w1 → wpAnyLast P md ops Q S ds fuel l' (a.put (some N) (.pointer (some ⟨g, 0, none⟩))) w1)) (hN : oi.dst = some N := by exact rfl) (hw : Region.wanted oi (yielded ops a.tmps) = true := by rfl)
    (hrun : (execOp a.eval oi).run P W = .ok (.value (.pointer (some ⟨W.heap.size, 0, none⟩))) (W.alloc (.cells cs t (0, 0))) := by first | (go_simp; done) | (go_simp; rfl)) : if Region.wanted oi (yielded ops a.tmps) = true then Oper.wp P oi a W K Q else K (a.put (some N) undef) W :=
  value_ hw hN hrun (hK _ _ (h _ rfl _ (blk_new W _) (below_alloc (Below.refl _ _) _)).1 (h _ rfl _ (blk_new W _) (below_alloc (Below.refl _ _) _)).2)
theorem ksS (hK : Shut (∀ a' w', S w' → (S w' → wpAnyLast Tryz.prog md ops Q S ds fuel l' a' w') → K a' w')) (p : ByteArray)
    (h : ∀ v1 w1, Kd.R Kd.string 9 w1 W.heap.size (fun _ => True) v1 [p] → Below W.heap.size W w1 → S w1 ∧ (S w1 → wpAnyLast Tryz.prog md ops Q S ds fuel l' (a.put (some N) v1) w1)) (hN : oi.dst = some N := by exact rfl) (hw : Region.wanted oi (yielded ops a.tmps) = true := by rfl)
    (hrun : (execOp a.eval oi).run Tryz.prog W = .ok (.value (.slice (some ⟨W.heap.size, 0, none⟩) [p].length [p].length)) (W.alloc (.cells [Value.string p].toArray 9)) := by first | (go_simp; done) | (go_simp; rfl)) :
    if Region.wanted oi (yielded ops a.tmps) = true then Oper.wp Tryz.prog oi a W K Q else K (a.put (some N) undef) W := by
  rw [← hN]
  exact Kd.R_lit_step Kd.string (w0 := W) W.heap.size 9 hw hN (xs := [p]) (inner := [.string p]) (ok := fun _ => True) (okp := fun _ => True) hrun (Reps.one (show Kd.M Kd.string _ _ _ p [.string p] from rfl) (Reps.none _ _)) (fun _ hk => hk) trivial (Below.refl _ _) (Nat.le_refl _) (by simp)
    fun v1 w1 h1 h2 _ _ => by rw [hN]; exact hK _ _ (h v1 w1 h1 h2).1 (h v1 w1 h1 h2).2
theorem ksI (hK : Shut (∀ a' w', S w' → (S w' → wpAnyLast Tryz.prog md ops Q S ds fuel l' a' w') → K a' w')) (p : Int)
    (h : ∀ v1 w1, Kd.R (Kd.int .i64) 3 w1 W.heap.size (fun _ => True) v1 [p] → Below W.heap.size W w1 → S w1 ∧ (S w1 → wpAnyLast Tryz.prog md ops Q S ds fuel l' (a.put (some N) v1) w1)) (hN : oi.dst = some N := by exact rfl) (hw : Region.wanted oi (yielded ops a.tmps) = true := by rfl)
    (hrun : (execOp a.eval oi).run Tryz.prog W = .ok (.value (.slice (some ⟨W.heap.size, 0, none⟩) [p].length [p].length)) (W.alloc (.cells [Value.int .i64 p].toArray 3)) := by first | (go_simp; done) | (go_simp; rfl)) :
    if Region.wanted oi (yielded ops a.tmps) = true then Oper.wp Tryz.prog oi a W K Q else K (a.put (some N) undef) W := by
  rw [← hN]
  exact Kd.R_lit_step (Kd.int .i64) (w0 := W) W.heap.size 3 hw hN (xs := [p]) (inner := [.int .i64 p]) (ok := fun _ => True) (okp := fun _ => True) hrun (Reps.one (show Kd.M (Kd.int .i64) _ _ _ p [.int .i64 p] from rfl) (Reps.none _ _)) (fun _ hk => hk) trivial (Below.refl _ _) (Nat.le_refl _) (by simp)
    fun v1 w1 h1 h2 _ _ => by rw [hN]; exact hK _ _ (h v1 w1 h1 h2).1 (h v1 w1 h1 h2).2
theorem kpS {xs ys : List ByteArray} {A : Option Addr} {c : Nat} {W0 W1 : World} {s x : Tmp} (hK : Shut (∀ a' w', S w' → (S w' → wpAnyLast Tryz.prog md ops Q S ds fuel l' a' w') → K a' w')) (O : Aside0 (RS W0 w v xs)) (O2 : Aside0 (RS W1 w (.slice A ys.length c) ys)) (L : Aside0 (xs.length + ys.length < 8796093022208))
    (h : ∀ v1 w1, Aside0 (RS w1 w v1 (xs ++ ys)) → Aside0 (Below w.heap.size w w1) → RS W w v xs → W.grownBy w1 v.ownBlock → S w1 ∧ (S w1 → wpAnyLast Tryz.prog md ops Q S ds fuel l' (a.put (some N) v1) w1)) (hN : oi.dst = some N := by exact rfl) (hw : Region.wanted oi (yielded ops a.tmps) = true := by rfl)
    (ho : oi.op = .call { callee := .builtin .append, args := #[.tmp s, .tmp x], argTypes := #[23, 23] } := by rfl) (hs : a.eval (.tmp s) = v := by rfl) (hx : a.eval (.tmp x) = .slice A ys.length c := by rfl)
    (HO : RS W w v xs := by exact rx) (H2 : RS W w (.slice A ys.length c) ys := by exact rx) (HB : Below w.heap.size w W := by exact bel) :
    if Region.wanted oi (yielded ops a.tmps) = true then Oper.wp Tryz.prog oi a W K Q else K (a.put (some N) undef) W := by
  rw [← hN]
  exact Kd.R_append_rows_step Kd.string w.heap.size hw (.tmp s) (.tmp x) 23 9 (.string ⟨#[]⟩) 16 ho Tryz.underlying23 info9 rfl (by decide) (by omega) v xs ys A ys.length c (fun _ => True) (fun _ => False) hs hx HO (Kd.R_reads' H2).2.2 (fun _ _ h => h) (fun _ hk => hk.elim) (fun _ _ => trivial) HB (below_size HB) (by have := L.out; omega)
    fun v1 w1 h1 h2 h3 _ => by rw [hN]; exact hK _ _ (h v1 w1 ⟨h1⟩ ⟨h2⟩ HO h3).1 (h v1 w1 ⟨h1⟩ ⟨h2⟩ HO h3).2
theorem kpI {xs ys : List Int} {A : Option Addr} {c : Nat} {W0 W1 : World} {s x : Tmp} (hK : Shut (∀ a' w', S w' → (S w' → wpAnyLast Tryz.prog md ops Q S ds fuel l' a' w') → K a' w')) (O : Aside0 (RI W0 w v xs)) (O2 : Aside0 (RI W1 w (.slice A ys.length c) ys)) (L : Aside0 (xs.length + ys.length < 17592186044416))
    (h : ∀ v1 w1, Aside0 (RI w1 w v1 (xs ++ ys)) → Aside0 (Below w.heap.size w w1) → RI W w v xs → W.grownBy w1 v.ownBlock → S w1 ∧ (S w1 → wpAnyLast Tryz.prog md ops Q S ds fuel l' (a.put (some N) v1) w1)) (hN : oi.dst = some N := by exact rfl) (hw : Region.wanted oi (yielded ops a.tmps) = true := by rfl)
    (ho : oi.op = .call { callee := .builtin .append, args := #[.tmp s, .tmp x], argTypes := #[24, 24] } := by rfl) (hs : a.eval (.tmp s) = v := by rfl) (hx : a.eval (.tmp x) = .slice A ys.length c := by rfl)
    (HO : RI W w v xs := by exact rx) (H2 : RI W w (.slice A ys.length c) ys := by exact rx) (HB : Below w.heap.size w W := by exact bel) :
    if Region.wanted oi (yielded ops a.tmps) = true then Oper.wp Tryz.prog oi a W K Q else K (a.put (some N) undef) W := by
  rw [← hN]
  exact Kd.R_append_rows_step (Kd.int .i64) w.heap.size hw (.tmp s) (.tmp x) 24 3 (.int .i64 0) 8 ho Tryz.underlying24 info3 rfl (by decide) (by omega) v xs ys A ys.length c (fun _ => True) (fun _ => False) hs hx HO (Kd.R_reads' H2).2.2 (fun _ _ h => h) (fun _ hk => hk.elim) (fun _ _ => trivial) HB (below_size HB) (by have := L.out; omega)
    fun v1 w1 h1 h2 h3 _ => by rw [hN]; exact hK _ _ (h v1 w1 ⟨h1⟩ ⟨h2⟩ HO h3).1 (h v1 w1 ⟨h1⟩ ⟨h2⟩ HO h3).2
end
end Go.Proofs.YtolenfcngomdfaaGreatDoor.V
