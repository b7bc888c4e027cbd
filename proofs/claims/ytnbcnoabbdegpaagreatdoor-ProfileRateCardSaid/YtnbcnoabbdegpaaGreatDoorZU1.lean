/- A part of the proof of the tied card of ProfileRate (chapter 53): the law returns true whatever the input. -/
import Derived.Test.YtnbcnoabbdegpaaGreatDoorProg
import Derived.Below
import Derived.Deep.Draws
import Derived.Deep.AppendLies
import Derived.Maps.AppendAt
import Derived.OwnWalk
import Derived.Laws.BytesArg
import Derived.Laws.MakeOwn
import Derived.Laws.OwnMore
import Derived.Deep.OwnRows
import Derived.Tactics
import Derived.Lib.ConvBytes
import Derived.Laws.Slices
import Derived.WalkKit
import Derived.KernelRfl
import Derived.RowKit3
import Derived.Deep.LoopGhost
import Derived.Deep.QuietTactic
import Derived.BigQuiet
import Derived.WideLaws
import Derived.Deep.DeepCutAuto
import Derived.Deep.CutBlock
import Derived.Deep.RegionHeld3
import Derived.Laws.Rows
import Derived.Lib.AppendStr
import Derived.ArgAppend
import Derived.Laws.IdiomCopy
import Derived.OrdersHeld
import Derived.Laws.BitsLemmas
import Derived.RowKit
import Derived.Test.YtnbcnoabbdegpaaGreatDoorZW
import Derived.Lib.Strings
import Derived.Lib.Slices
import Derived.Lib.Walk
import Derived.Lib.Bytealg
import Derived.Shelf.Strings.SplitCore
import Derived.Lib.SplitLaws
set_option linter.unusedVariables false
set_option linter.unusedSimpArgs false
namespace Go.Proofs.YtnbcnoabbdegpaaGreatDoor.V
open Go.RowKit Go.Proofs.YtnbcnoabbdegpaaGreatDoorW.PrintWords Go.Proofs.YtnbcnoabbdegpaaGreatDoorW.PrintLast Go.Proofs.YtnbcnoabbdegpaaGreatDoorW.PrintMore
set_option linter.unusedVariables false
set_option linter.unusedSimpArgs false
theorem info3:(Tryz.prog.info? 3).map (fun i => (i.zero,i.size,i.bytes)) = some (some (.int .i64 0),1,8):=by kernel_rfl
theorem info9:(Tryz.prog.info? 9).map (fun i => (i.zero,i.size,i.bytes)) = some (some (.string ⟨#[]⟩),1,16):=by kernel_rfl
structure S72 where
 f0:ByteArray
 f1:ByteArray
def z72:S72:=⟨(⟨#[]⟩:ByteArray),(⟨#[]⟩:ByteArray)⟩
def k72:Kd S72:=Kd.iso (Kd.pair Kd.string Kd.string) (fun x:S72 => (x.f0,x.f1))
theorem k72_open {w:World} {x:S72} {cs:List Value} (h:k72.K w x cs):cs = [.string x.f0,.string x.f1]:=by
 obtain ⟨_,_,rfl,rfl,rfl⟩:=h
 exact rfl
def rd_T72 (xs:List S72) (i:Int):S72:=xs.getD i.toNat z72
theorem at_T72 {w:World} {A:Option Addr} {n:Nat} {xs:List S72} (h:Kd.C k72 w A n xs) (i:Int) (h0:0 ≤ i) (h1:i < n):∃ ad , A = some ad ∧ w.cell? (ad.add (i.toNat * 2)) = some (.string (rd_T72 xs i).f0) ∧ w.cell? ⟨(ad.add (i.toNat * 2)).block,(ad.add (i.toNat * 2)).off + 1,none⟩ = some (.string (rd_T72 xs i).f1):=by
 obtain ⟨ad,c,e,_,hK,hc0⟩:=Kd.C_get h z72 i h0 h1
 have hc:∀ j u,c[j]? = some u → w.cell? (ad.add (i.toNat * 2 + j)) = some u:=hc0
 obtain rfl:=k72_open hK
 exact ⟨ad,e,hc 0 _ rfl,by rw [← add_field _ _ 1 (by omega)];exact hc 1 _ rfl⟩
theorem eqA72 (d:Nat) (w:World) (x0 y0:ByteArray) (x1 y1:ByteArray) :
  (Op.equalIn (d + 2) 72 (.agg #[.string x0,.string x1]) (.agg #[.string y0,.string y1])).run Tryz.prog w = .ok (x0.toList == y0.toList && (x1.toList == y1.toList)) w:=by
 refine eqA_of Tryz.underlying72 (by kernel_rfl) ?_
 refine eqf_cons (by rfl) (by go_simp;rfl) (by go_simp;rfl) (by go_simp) ?_
 exact eqf_last (by rfl) (by go_simp;rfl) (by go_simp;rfl) (by go_simp)
theorem bel {p:Prop} (h:p:=by repeat (first | (with_reducible first | exact (Aside0.out (by assumption)) | apply below_alloc | apply pw_below_drewN | apply below_drew1 | refine below_set ?_ (Aside0.out (by assumption))) | exact (Aside0.out (by assumption)))):p:=h
theorem skb {p:Prop} (h:p:=by (with_reducible repeat (first | refine blk_drewN ?_ _ | refine blk_drew ?_ | refine blk_alloc ?_ _));exact (Aside0.out (by assumption))):p:=h
theorem skr {p:Prop} (h:p:=by (with_reducible repeat (first | apply Kd.R_alloc | apply Kd.R_drewN | apply Kd.R_drew));exact (Aside0.out (by assumption))):p:=h
theorem skc {p:Prop} (h:p:=by (with_reducible repeat (first | refine Kd.C_alloc ?_ _ | refine Kd.C_drewN ?_ _ | refine Kd.C_drew ?_));exact (Aside0.out (by assumption))):p:=h
theorem rdc {p:Prop} (h:p:=by repeat (first | exact (Kd.C_below (Aside0.out (by assumption)) (Aside0.out (by assumption))) | (with_reducible refine Kd.C_alloc ?_ _) | (with_reducible refine Kd.C_drewN ?_ _) | (with_reducible refine Kd.C_drew ?_))):p:=h
theorem aso {p:Prop} (h:p:=by exact (Aside0.out (by assumption))):p:=h
theorem asm {p:Prop} (h:p:=by first | (with_reducible assumption) | assumption):p:=h
theorem rr {p:Prop} (h:p:=by first | rfl | (simp [errW_none,errW_some] <;> rfl) | (simp [*,errW_none,errW_some] <;> rfl)):p:=h
theorem rs {p:Prop} (h:p:=by first | rfl | (simp;done) | (simp [*];done)):p:=h
theorem drw {p:Prop} (h:p:=by repeat (first | exact Drawn0.refl _ | apply Drawn0.step)):p:=h
theorem arg {p:Prop} (h:p:=by (try simp only [List.map_toArray,List.map_cons,List.map_nil]);first | done | rfl | (simp only [List.length_drop,List.length_take];rfl) | (simp only [decide_eq_true_eq,decide_eq_false_iff_not] at *;congr <;> (first | rfl | (refine (congrArg (Value.int .i64) ?_:Value.int .i64 _ = Value.int .i64 _);unfold wrap64;omega) | fail)) | fail):p:=h
theorem bl_lt:∀ (x y:List UInt8),Op.bytesLess x y = decide (x < y)
 | x,[] => by cases x <;> simp [Op.bytesLess]
 | [],_ :: _ => by simp [Op.bytesLess]
 | a :: x,b :: y => by
  rw [Op.bytesLess,bl_lt x y]
  by_cases h:a < b
  ·have:a :: x < b :: y:=List.cons_lt_cons_iff.2 (.inl h)
   simp [h,this]
  ·by_cases e:a = b
   ·subst e
    simp [List.cons_lt_cons_iff,h]
   ·have:¬ a :: x < b :: y:=fun c => by
     rcases List.cons_lt_cons_iff.1 c with c | c
     ·exact h c
     ·exact e c.1
    simp [h,e,this]
theorem geqS {P:Program} (t:TypeId) (x y:ByteArray) (W:World):(binOp .geq t (.string x) (.string y)).run P W = .ok (.bool (!(Op.bytesLess x.toList y.toList))) W:=by simp [binOp,Op.stringOp]
theorem leqS {P:Program} (t:TypeId) (x y:ByteArray) (W:World):(binOp .leq t (.string x) (.string y)).run P W = .ok (.bool (!(Op.bytesLess y.toList x.toList))) W:=by
 have e:(Op.bytesLess x.toList y.toList || x.toList == y.toList) = !(Op.bytesLess y.toList x.toList):=by
  rw [bl_lt,bl_lt]
  by_cases h:y.toList < x.toList
  ·have h1:¬ x.toList < y.toList:=List.lt_asymm h
   have h2:x.toList ≠ y.toList:=fun e => List.lt_irrefl _ (e ▸ h)
   simp [h,h1,h2]
  ·by_cases h1:x.toList < y.toList
   ·simp [h,h1]
   ·have:=List.le_antisymm (List.not_lt.1 h) (List.not_lt.1 h1)
    simp [h,h1,this]
 simp [binOp,Op.stringOp,e]
def byt.f (s:ByteArray):Option (List Int):=if s.size ≤ 9223372036854775807 then some (bytesOf s) else none
section
variable {P:Program} {ops:Array Oper} {rest:List Oper} {o:Oper} {a:Act} {Q:Exit → Act → World → Prop}
theorem conv_C {W:World} (hgd:o.guard = none) {N:Tmp} (_hd:o.dst = some N) {e:TypeId} {s:ByteArray} {xs:List Int} (hx:byt.f s = some xs)
  (hrun:(execOp a.eval o).run P W = .ok (.value (.slice (some ⟨W.heap.size,0,none⟩) s.size (grownCap W s.size 0 e))) (Lib.bytesWorld W e s))
  (h:∀ A c w1,Kd.C (Kd.int .u8) w1 A xs.length xs → Below W.heap.size W w1 → wpList P ops Q rest (a.put o.dst (.slice A xs.length c)) w1):wpList P ops Q (o :: rest) a W:=by
 unfold byt.f at hx
 by_cases hs:s.size ≤ 9223372036854775807
 ·rw [if_pos hs] at hx
  obtain rfl:=Option.some.inj hx
  refine Kd.event_run hgd hrun ?_
  have hl:=bytesOf_length s
  have hr:=bytes_reads W e s hs
  rw [← hl] at hr ⊢
  exact h _ _ _ (Kd.C_of_reads (d:=(0:Int)) hr) (bytes_below (Below.refl _ _) (Nat.le_refl _) e s)
 ·rw [if_neg hs] at hx
  cases hx
end
theorem am {p:Prop} (h:p):Aside0 p:=⟨h⟩
section
variable {w:World} {g:Nat} {t:TypeId} {a b c d:Value}
theorem c0 {cs} (h:w.heap[g]? = some (.cells ⟨a :: cs⟩ t (0,0))):w.cell? ⟨g,0,none⟩ = some a:=(blk_cell h 0).trans rfl
theorem c1 {cs} (h:w.heap[g]? = some (.cells ⟨a :: b :: cs⟩ t (0,0))):w.cell? ⟨g,1,none⟩ = some b:=(blk_cell h 1).trans rfl
theorem c2 {cs} (h:w.heap[g]? = some (.cells ⟨a :: b :: c :: cs⟩ t (0,0))):w.cell? ⟨g,2,none⟩ = some c:=(blk_cell h 2).trans rfl
theorem c3 {cs} (h:w.heap[g]? = some (.cells ⟨a :: b :: c :: d :: cs⟩ t (0,0))):w.cell? ⟨g,3,none⟩ = some d:=(blk_cell h 3).trans rfl
theorem cf2 (h:w.heap[g]? = some (.cells #[a,b] t (0,0))):(w.cell? ⟨g,0,none⟩ = some a ∧ w.cell? ⟨g,1,none⟩ = some b) ∧ w.frozen? ⟨g,0,none⟩ = false ∧ w.frozen? ⟨g,1,none⟩ = false:=⟨⟨c0 h,c1 h⟩,blk_frozen h 0,blk_frozen h 1⟩
theorem cf4 (h:w.heap[g]? = some (.cells #[a,b,c,d] t (0,0))):(w.cell? ⟨g,0,none⟩ = some a ∧ w.cell? ⟨g,1,none⟩ = some b ∧ w.cell? ⟨g,2,none⟩ = some c ∧ w.cell? ⟨g,3,none⟩ = some d) ∧ w.frozen? ⟨g,0,none⟩ = false ∧ w.frozen? ⟨g,1,none⟩ = false ∧ w.frozen? ⟨g,2,none⟩ = false ∧ w.frozen? ⟨g,3,none⟩ = false:=⟨⟨c0 h,c1 h,c2 h,c3 h⟩,blk_frozen h 0,blk_frozen h 1,blk_frozen h 2,blk_frozen h 3⟩
end
theorem nel (g:Nat) {g':Nat} {w:World} {o:Obj} (hg:g' = w.heap.size) (h:w.heap[g]? = some o:=by (with_reducible repeat (first | refine blk_drewN ?_ _ | refine blk_drew ?_ | refine blk_alloc ?_ _));exact (Aside0.out (by assumption))):Aside0 (g ≠ g'):=⟨hg ▸ Nat.ne_of_lt (blk_lt h)⟩
theorem ner (g:Nat) {g':Nat} {w:World} {o:Obj} (hg:g' = w.heap.size) (h:w.heap[g]? = some o:=by (with_reducible repeat (first | refine blk_drewN ?_ _ | refine blk_drew ?_ | refine blk_alloc ?_ _));exact (Aside0.out (by assumption))):Aside0 (g' ≠ g):=⟨hg ▸ Nat.ne_of_gt (blk_lt h)⟩
theorem szl {g':Nat} {w w0:World} (hg:g' = w.heap.size) (h:Below w0.heap.size w0 w:=by repeat (first | (with_reducible first | exact (Aside0.out (by assumption)) | apply below_alloc | apply pw_below_drewN | apply below_drew1 | refine below_set ?_ (Aside0.out (by assumption))) | exact (Aside0.out (by assumption)))):Aside0 (w0.heap.size ≤ g'):=⟨hg ▸ below_size h⟩
theorem ipos {c:Prop} [Decidable c] {α:Type} {a:Option α} {r:α} (h:(if c then a else none) = some r):c ∧ a = some r:=by
 by_cases hc:c
 ·rw [if_pos hc] at h
  exact ⟨hc,h⟩
 ·rw [if_neg hc] at h
  cases h
theorem qs {w:World} {g:Nat} {t:TypeId} {cs:Array Value} (h:w.heap[g]? = some (.cells cs t (0,0))) (i:Nat) (u:Value):(w.setCell ⟨g,i,none⟩ u).heap[g]? = some (.cells (cs.setIfInBounds i u) t (0,0)):=blk_put h i u rfl
theorem far1 {w:World} {g:Nat} {o:Obj} {p:Addr} {u:Value} (h:w.heap[g]? = some o) (hp:g ≠ p.block):(w.setCell p u).heap[g]? = some o:=(Below.heap_setCell w p u g hp).trans h
theorem bbl (g:Nat) {w w1:World} {o:Obj} (hb:Below w.heap.size w w1) (h:w.heap[g]? = some o:=by repeat (with_reducible first | exact (Aside0.out (by assumption)) | apply qs | apply far1 | apply blk_drewN | apply blk_drew | apply blk_alloc)):Aside0 (w1.heap[g]? = some o):=⟨blk_below h hb⟩
theorem bst {w w1 w0:World} (hb:Below w.heap.size w w1) (h:Below w0.heap.size w0 w:=by repeat (first | (with_reducible first | exact (Aside0.out (by assumption)) | apply below_alloc | apply pw_below_drewN | apply below_drew1 | refine below_set ?_ (Aside0.out (by assumption))) | exact (Aside0.out (by assumption)))):Aside0 (Below w0.heap.size w0 w1):=⟨below_step h hb⟩
section
variable {P:Program} {ops:Array Oper} {rest:List Oper} {o:Oper} {a:Act} {Q:Exit → Act → World → Prop}
theorem bxe {W:World} (N:Tmp) (cs:Array Value) (t:TypeId) (h:∀ g,g = W.heap.size → ∀ w1,w1.heap[g]? = some (.cells cs t (0,0)) → Below W.heap.size W w1 → wpList P ops Q rest (a.put o.dst (.pointer (some ⟨g,0,none⟩))) w1) (hgd:o.guard = none:=by rfl) (hd:o.dst = some N:=by rfl)
 (hrun:(execOp a.eval o).run P W = .ok (.value (.pointer (some ⟨W.heap.size,0,none⟩))) (W.alloc (.cells cs t (0,0))):=by first | (go_simp;done) | (go_simp;rfl))
  : wpList P ops Q (o :: rest) a W:=box_event hgd hd hrun h
theorem bx {W:World} (N:Tmp) (cs:Array Value) (t:TypeId) (h:∀ g w1,w1.heap[g]? = some (.cells cs t (0,0)) → Below W.heap.size W w1 → wpList P ops Q rest (a.put o.dst (.pointer (some ⟨g,0,none⟩))) w1) (hgd:o.guard = none:=by rfl) (hd:o.dst = some N:=by rfl)
 (hrun:(execOp a.eval o).run P W = .ok (.value (.pointer (some ⟨W.heap.size,0,none⟩))) (W.alloc (.cells cs t (0,0))):=by first | (go_simp;done) | (go_simp;rfl))
  : wpList P ops Q (o :: rest) a W:=box_event hgd hd hrun (fun g _ => h g)
variable {S:World → Prop} {ds:List Nat} {md:Region.Mode} {T:Bool × List (List Nat × List Nat)} {B:List Nat}
theorem pu {T:Bool × List (List Nat × List Nat)} {fuel:Nat} {l:Array Bool} {a:Act} {w:World} (i:Nat) {N:Option Tmp} {oi:Oper} {v:Value} {l':Array Bool} {a':Act} (h:wpAnyLast P md ops Q S ds fuel l' a' w)
  (hi:ops[i]? = some oi:=by (simp only [List.getElem?_toArray,List.getElem?_cons_succ,List.getElem?_cons_zero];exact rfl)) (hN:oi.dst = N:=by exact rfl) (hl:(l.toList.set i true).toArray = l':=by (simp only [List.set_cons_succ,List.set_cons_zero];exact rfl))
  (hT:rtab md ops = T:=by exact (Aside0.out (by assumption))) (hc:anyT T l.toList l'.toList i = true:=by kernel_rfl)
  (hQ:∀ c a w,Q (.panic c) (a.put oi.dst v) w → Q (.panic c) a w:=by exact (fun _ _ _ h => h)) (hy:Yields P ops oi v a:=by first | (refine Or.inl ⟨by rfl,?_⟩;intro w';go_simp;with_reducible rfl) | exact Or.inr ⟨by rfl,rfl⟩)
  (ha:a.put N v = a':=by (simp only [Act.put,List.setIfInBounds_toArray,List.set_cons_zero,List.set_cons_succ,i64_w];rfl)):wpAnyLast P md ops Q S ds (fuel + 1) l a w:=
 pure_ l' hi hN (any_of hT hc) hQ hy ha h
theorem tk {T:Bool × List (List Nat × List Nat)} {B:List Nat} {fuel:Nat} {l:Array Bool} {a:Act} {w:World} (i:Nat) {N:Option Tmp} {oi:Oper} {v:Value} {l':Array Bool} {a':Act} (h:wpAnyLast P md ops Q S ds fuel l' a' w)
  (hi:ops[i]? = some oi:=by (simp only [List.getElem?_toArray,List.getElem?_cons_succ,List.getElem?_cons_zero];exact rfl)) (hN:oi.dst = N:=by exact rfl) (hl:(l.toList.set i true).toArray = l':=by (simp only [List.set_cons_succ,List.set_cons_zero];exact rfl))
  (hT:rtab md ops = T:=by exact (Aside0.out (by assumption))) (hB:waitsOk T.2 B = true:=by exact (Aside0.out (by assumption))) (hc:takeW T B ds l.toList l'.toList i = true:=by kernel_rfl)
  (hQ:∀ c a w,Q (.panic c) (a.put oi.dst v) w → Q (.panic c) a w:=by exact (fun _ _ _ h => h)) (hy:YieldsIf P ops S oi v a:=by first | (refine Or.inl ⟨by rfl,?_⟩;intro w' hs_;(repeat (obtain ⟨_,hs_⟩:=hs_));go_simp;with_reducible rfl) | exact Or.inr ⟨by rfl,rfl⟩)
  (hS:S w:=by assumption) (ha:a.put N v = a':=by (simp only [Act.put,List.setIfInBounds_toArray,List.set_cons_zero,List.set_cons_succ,i64_w];rfl)):wpAnyLast P md ops Q S ds (fuel + 1) l a w:=
 take_ l' hi hN (take_ofW hT hB hc) hQ hy hS ha h
end
section
variable {α β:Type} {x y:Option α} {r:α}
theorem bT {t c:Int} (H:Aside0 ((if t = c then x else y) = some r)) (q:(t != c) = true):Aside0 (y = some r):=⟨(if_neg (bne_iff_ne.mp q)).symm.trans H.out⟩
theorem bF {t c:Int} (H:Aside0 ((if t = c then x else y) = some r)) (q:(t != c) = false):Aside0 (x = some r):=⟨(if_pos (bne_eq_false_iff_eq.mp q)).symm.trans H.out⟩
theorem iT {c:Prop} [Decidable c] (H:Aside0 ((if c then x else y) = some r)) (q:c):Aside0 (x = some r):=⟨(if_pos q).symm.trans H.out⟩
theorem iF {c:Prop} [Decidable c] (H:Aside0 ((if c then x else y) = some r)) (q:¬ c):Aside0 (y = some r):=⟨(if_neg q).symm.trans H.out⟩
theorem uT {b:Bool} (H:Aside0 ((if b = true then x else y) = some r)) (q:b = true):Aside0 (x = some r):=iT H q
theorem uF {b:Bool} (H:Aside0 ((if b = true then x else y) = some r)) (q:b = false):Aside0 (y = some r):=iF H (by rw [q];exact Bool.false_ne_true)
theorem nT {b:Bool} (H:Aside0 ((if b = true then x else y) = some r)) (q:(!b) = true):Aside0 (y = some r):=uF H (by simpa using q)
theorem nF {b:Bool} (H:Aside0 ((if b = true then x else y) = some r)) (q:(!b) = false):Aside0 (x = some r):=uT H (by simpa using q)
theorem bE {x:Option β} {f:β → Option α} (H:Aside0 (x.bind f = some r)):∃ t,Aside0 (x = some t) ∧ Aside0 (f t = some r):=by
 obtain ⟨t,h1,h2⟩:=Option.bind_eq_some_iff.mp H.out
 exact ⟨t,⟨h1⟩,⟨h2⟩⟩
theorem jn {c:Prop} [Decidable c] (H:Aside0 ((if c then x else none) = some r)):c ∧ Aside0 (x = some r):=by
 obtain ⟨h1,h2⟩:=ipos H.out
 exact ⟨h1,⟨h2⟩⟩
theorem sj4 {β γ δ:Type} {a a':α} {b b':β} {c c':γ} {d d':δ} (H:Aside0 (some (a,b,c,d) = some (a',b',c',d'))):a = a' ∧ b = b' ∧ c = c' ∧ d = d':=by simpa using H.out
theorem sj2 {β:Type} {a a':α} {b b':β} (H:Aside0 (some (a,b) = some (a',b'))):a = a' ∧ b = b':=by simpa using H.out
theorem sj {a r:α} (H:Aside0 (some a = some r)):a = r:=Option.some.inj H.out
end
def one1 (b:ByteArray):Option UInt8:=match b.data.toList with | [c] => some c | _ => none
theorem one1_eq {b:ByteArray} {c:UInt8} (h:one1 b = some c):b = ⟨#[c]⟩:=by
 unfold one1 at h
 split at h
 ·rename_i x hx
  cases h
  have:b.data = #[c]:=by rw [← Array.toArray_toList (xs:=b.data),hx]
  exact ByteArray.ext this
 ·cases h
set_option maxHeartbeats 1000000 in
set_option maxRecDepth 100000 in
theorem count_one (s:ByteArray) (c:UInt8) (w:World) :
  Calls Tryz.prog 375 #[.string s,.string ⟨#[c]⟩] w fun e w' => e = .returned (.int .i64 (Lib.countByte s.data.toList c)) ∧ w' = w:=by
 go_enter Tryz.func375,Tryz.ntmps375
 go_wp2
 rw [run_callFunc_extern Tryz.func459 (by kernel_rfl) (by kernel_rfl) (by kernel_rfl) (e:=Extern.BytealgCount.count) (by kernel_rfl),Lib.run_countString]
 simp only [Result.andThen]
 rw [Oper.upon_value]
 go_wp2
 go_ret
 exact ⟨rfl,rfl⟩
set_option maxHeartbeats 1000000 in
set_option maxRecDepth 100000 in
theorem lite_byte (s:ByteArray) (c:Int) (w:World) :
  Calls Tryz.prog 341 #[.string s,.int .u8 c] w fun e w' => e = .returned (.int .i64 (Lib.indexByte s.data.toList c.toNat.toUInt8)) ∧ w' = w:=by
 go_enter Tryz.func341,Tryz.ntmps341
 go_wp2
 rw [run_callFunc_extern Tryz.func425 (by kernel_rfl) (by kernel_rfl) (by kernel_rfl) (e:=Extern.BytealgIndexByte.indexByte) (by kernel_rfl),Lib.run_indexByteString]
 simp only [Result.andThen]
 rw [Oper.upon_value]
 go_wp2
 go_ret
 exact ⟨rfl,rfl⟩
set_option maxHeartbeats 2000000 in
set_option maxRecDepth 100000 in
theorem lite_one (s:ByteArray) (c:UInt8) (w:World) :
  Calls Tryz.prog 460 #[.string s,.string ⟨#[c]⟩] w fun e w' => e = .returned (.int .i64 (Lib.indexByte s.data.toList c)) ∧ w' = w:=by
 go_enter Tryz.func460,Tryz.ntmps460
 go_wp2_with (go_at_call 341;refine (lite_byte _ _ _).mono ?_;rintro e w' ⟨rfl,rfl⟩)
 ·have h:([c] == s.toList) = true:=by assumption
  go_ret
  refine ⟨?_,rfl⟩
  have e:s.data.toList = [c]:=by rw [← Lib.toList_data];exact (beq_iff_eq.1 h).symm
  rw [e]
  simp [Lib.indexByte]
 ·go_ret
  exact ⟨rfl,rfl⟩
set_option maxHeartbeats 1000000 in
theorem index_one (s:ByteArray) (c:UInt8) (w:World) :
  Calls Tryz.prog 376 #[.string s,.string ⟨#[c]⟩] w fun e w' => e = .returned (.int .i64 (Lib.indexByte s.data.toList c)) ∧ w' = w:=by
 go_enter Tryz.func376,Tryz.ntmps376
 go_wp2_with (go_at_call 460;refine (lite_one _ _ _).mono ?_;rintro e w' ⟨rfl,rfl⟩)
 go_ret
 exact ⟨rfl,rfl⟩
open Go.RowKit Go.Shelf Go.Proofs.YtnbcnoabbdegpaaGreatDoorW.PrintWords Go.Proofs.YtnbcnoabbdegpaaGreatDoorW.PrintLast Go.Proofs.YtnbcnoabbdegpaaGreatDoorW.PrintMore
def lays221_ren:Go.Shelf.Ren:=⟨fun | 221 => 277 | 268 => 374 | 138 => 375 | 143 => 376 | 195 => 457 | 197 => 458 | 218 => 459 | 219 => 460 | 260 => 502 | 217 => 341 | 225 => 503 | 224 => 504 | 267 => 505 | 266 => 425 | 314 => 543 | n => n,fun | 9 => 9 | 3 => 3 | 31 => 23 | 4 => 4 | 0 => 0 | 105 => 582 | 21 => 21 | 5 => 5 | 46 => 222 | 119 => 644 | 139 => 647 | 138 => 646 | 146 => 648 | 51 => 463 | n => n,fun | 1 => 3 | 3 => 4 | 4 => 5 | n => n⟩
theorem lays221:Go.Proofs.Lays.n221 Tryz.prog lays221_ren:={
 mixed:=by kernel_rfl
 f138:=Tryz.func375.trans (congrArg some (by kernel_rfl))
 f143:=Tryz.func376.trans (congrArg some (by kernel_rfl))
 f195:=Tryz.func457.trans (congrArg some (by kernel_rfl))
 f197:=Tryz.func458.trans (congrArg some (by kernel_rfl))
 f217:=Tryz.func341.trans (congrArg some (by kernel_rfl))
 f218:=Tryz.func459.trans (congrArg some (by kernel_rfl))
 f219:=Tryz.func460.trans (congrArg some (by kernel_rfl))
 f221:=Tryz.func277.trans (congrArg some (by kernel_rfl))
 f224:=Tryz.func504.trans (congrArg some (by kernel_rfl))
 f225:=Tryz.func503.trans (congrArg some (by kernel_rfl))
 f260:=Tryz.func502.trans (congrArg some (by kernel_rfl))
 f266:=Tryz.func425.trans (congrArg some (by kernel_rfl))
 f267:=Tryz.func505.trans (congrArg some (by kernel_rfl))
 f268:=Tryz.func374.trans (congrArg some (by kernel_rfl))
 f314:=Tryz.func543.trans (congrArg some (by kernel_rfl))
 t0:=Tryz.underlying0
 a0:=Tryz.isAgg0
 z0:=Tryz.sizeOf0
 v0:=Tryz.zeroValue0
 t3:=Tryz.underlying3
 a3:=Tryz.isAgg3
 z3:=Tryz.sizeOf3
 v3:=Tryz.zeroValue3
 t4:=Tryz.underlying4
 a4:=Tryz.isAgg4
 z4:=Tryz.sizeOf4
 v4:=Tryz.zeroValue4
 t5:=Tryz.underlying5
 a5:=Tryz.isAgg5
 z5:=Tryz.sizeOf5
 v5:=Tryz.zeroValue5
 t9:=Tryz.underlying9
 a9:=Tryz.isAgg9
 z9:=Tryz.sizeOf9
 v9:=Tryz.zeroValue9
 t21:=Tryz.underlying21
 a21:=Tryz.isAgg21
 z21:=Tryz.sizeOf21
 v21:=Tryz.zeroValue21
 t31:=Tryz.underlying23
 a31:=Tryz.isAgg23
 z31:=Tryz.sizeOf23
 v31:=Tryz.zeroValue23
 t46:=Tryz.underlying222
 a46:=Tryz.isAgg222
 z46:=Tryz.sizeOf222
 v46:=Tryz.zeroValue222
 t51:=Tryz.underlying463
 a51:=Tryz.isAgg463
 z51:=Tryz.sizeOf463
 v51:=Tryz.zeroValue463
 t105:=Tryz.underlying582
 a105:=Tryz.isAgg582
 z105:=Tryz.sizeOf582
 v105:=Tryz.zeroValue582
 t119:=Tryz.underlying644
 a119:=Tryz.isAgg644
 z119:=Tryz.sizeOf644
 t138:=Tryz.underlying646
 a138:=Tryz.isAgg646
 z138:=Tryz.sizeOf646
 v138:=Tryz.zeroValue646
 t139:=Tryz.underlying647
 a139:=Tryz.isAgg647
 z139:=Tryz.sizeOf647
 v139:=Tryz.zeroValue647
 t146:=Tryz.underlying648
 a146:=Tryz.isAgg648
 z146:=Tryz.sizeOf648
 v146:=Tryz.zeroValue648
 g1:=by kernel_rfl
 g3:=by kernel_rfl
 g4:=by kernel_rfl }
theorem genSplit_one (s:ByteArray) (c:UInt8) (w:World) (hs:s.size < 4294967281) :
  Calls Tryz.prog 277 #[.string s,.string ⟨#[c]⟩,.int .i64 0,.int .i64 (-1)] w fun e w' =>
   e = .returned (.slice (some ⟨w.heap.size,0,none⟩) (Lib.splitB ⟨#[c]⟩ 0 (Lib.countB s ⟨#[c]⟩) s).length (Lib.splitB ⟨#[c]⟩ 0 (Lib.countB s ⟨#[c]⟩) s).length) ∧
    w' = w.alloc (.cells ((Lib.splitB ⟨#[c]⟩ 0 (Lib.countB s ⟨#[c]⟩) s).map Value.string).toArray 9):=by
 have h1:1 ≤ (⟨#[c]⟩:ByteArray).size:=Nat.le_refl 1
 have hle:=Lib.countB_le ⟨#[c]⟩ h1 s.size s (Nat.le_refl _)
 have hlen:=Lib.splitB_all ⟨#[c]⟩ h1 0 _ s rfl
 have hi9:(Tryz.prog.info? (lays221_ren.t 9)).map (fun i => (i.zero,i.size,i.bytes)) = some (some (.string ByteArray.empty),1,16):=by kernel_rfl
 have k:=Any.strings_genSplit_core lays221 hi9 s ⟨#[c]⟩ 0 (-1) (Lib.countB s ⟨#[c]⟩ + 1) w hs h1 (Nat.zero_le _)
  (fun x cs hx => (index_one x c _).mono fun e w' ⟨he,hw⟩ => ⟨by rw [he];show _ = Ending.returned (Value.int .i64 (Lib.index x.data.toList [c]));rw [Lib.index_one],hw⟩)
  ((count_one s c w).mono fun e w' ⟨he,hw⟩ => ⟨by rw [he];show _ = Ending.returned (Value.int .i64 ((Lib.count s.data.toList [c]:Nat):Int));rw [Lib.count_one];rfl,hw⟩)
  (by decide) (by decide) (by rw [if_pos (by decide)];omega)
 rw [Nat.add_sub_cancel] at k
 have e2:Lib.cellsOf (Lib.splitB ⟨#[c]⟩ 0 (Lib.countB s ⟨#[c]⟩) s) (Lib.countB s ⟨#[c]⟩ + 1) = ((Lib.splitB ⟨#[c]⟩ 0 (Lib.countB s ⟨#[c]⟩) s).map Value.string).toArray:=by rw [← hlen];exact Lib.cellsOf_full _
 rw [e2] at k
 rw [hlen] at k ⊢
 exact k
def strings_Split.f (_:Nat) (a b:ByteArray):Option (List ByteArray):=if a.size < 4294967281 then (one1 b).map fun _ => Lib.splitB b 0 (Lib.countB a b) a else none
set_option maxHeartbeats 1000000 in
theorem strings_Split.calls (k:Nat) (a b:ByteArray) (r:List ByteArray) (w:World) (h:strings_Split.f k a b = some r) :
  Calls Tryz.prog 187 #[.string a,.string b] w fun e w' => ∃ v0_:Value,e = .returned v0_ ∧ Kd.R Kd.string 9 w' w.heap.size (fun _ => True) v0_ r ∧ Below w.heap.size w w':=by
 unfold strings_Split.f at h
 by_cases hs:a.size < 4294967281
 ·rw [if_pos hs] at h
  obtain ⟨c,hc,rfl⟩:=Option.map_eq_some_iff.1 h
  obtain rfl:=one1_eq hc
  have hlen:=Lib.splitB_length_le ⟨#[c]⟩ 0 (Lib.countB a ⟨#[c]⟩) a
  have hle:=Lib.countB_le ⟨#[c]⟩ (Nat.le_refl 1) a.size a (Nat.le_refl _)
  have g:=genSplit_one a c w hs
  generalize hL:Lib.splitB ⟨#[c]⟩ 0 (Lib.countB a ⟨#[c]⟩) a = L at *
  have key:∃ v0_:Value,(Value.slice (some ⟨w.heap.size,0,none⟩) L.length L.length) = v0_ ∧ Kd.R Kd.string 9 (w.alloc (.cells (L.map Value.string).toArray 9)) w.heap.size (fun _ => True) v0_ L ∧ Below w.heap.size w (w.alloc (.cells (L.map Value.string).toArray 9)):=
   ⟨_,rfl,Kd.R_of_own (World.ownsRow_lit (base:=w.heap.size) (e:=9) (size:=1) w (L.map Value.string).toArray L.length (Nat.le_refl _) (by unfold maxLen;omega) (by simp)) (fun _ _ => trivial),below_alloc (Below.refl _ _) _⟩
  go_enter Tryz.func187,Tryz.ntmps187
  go_wp2_with (go_at_call 277;refine g.mono ?_;rintro e w' ⟨rfl,hw⟩;rw [hw])
  go_ret
  obtain ⟨v,rfl,k2,k3⟩:=key
  exact ⟨_,rfl,k2,k3⟩
 ·rw [if_neg hs] at h
  cases h
def slices_Index_string_string.l0:Nat → List ByteArray → ByteArray → Int → Int → Option (Int)
 | 0,_,_,_,_ => none
 | k + 1,x0,x1,x7,x8 => if x8 < x7 then (if 0 ≤ x8 then (if x8 < (x0.length:Int) then (if x1.toList = (rdOf ByteArray.empty x0 x8).toList then (some x8) else (slices_Index_string_string.l0 k x0 x1 x7 (wrap64 (x8 + 1)))) else (none)) else (none)) else (some (-1))
def slices_Index_string_string.f (k:Nat) (l0:List ByteArray) (a1:ByteArray):Option (Int):=slices_Index_string_string.l0 k l0 a1 (l0.length:Int) 0
set_option maxHeartbeats 8000000 in
set_option maxRecDepth 100000 in
theorem slices_Index_string_string.calls (k:Nat) (A0:Option Addr) (c0:Nat) (l0:List ByteArray) (a1:ByteArray) (r:Int) (w:World) (hr0:Kd.C Kd.string w A0 l0.length l0) (hc0:l0.length ≤ c0) (h:slices_Index_string_string.f k l0 a1 = some r) :
  Calls Tryz.prog 163 #[.slice A0 l0.length c0,.string a1] w fun e w' => e = .returned (.int .i64 r) ∧ Drawn0 w w':=by
 have HR0:=Aside0.mk hr0
 have HC0:=Aside0.mk hc0
 clear hr0 hc0
 have H:(slices_Index_string_string.l0 k l0 a1 (l0.length:Int) 0) = some r:=h
 clear h
 have H':=Aside0.mk H
 clear H
 go_enter Tryz.func163,Tryz.ntmps163
 go_wp2
 go_loopg [8] k (fun kq v8 w' => ∃ (x8_1:Int),v8 = .int .i64 x8_1 ∧ Aside0 (slices_Index_string_string.l0 kq l0 a1 (l0.length:Int) x8_1 = some r) ∧ Aside0 (kq ≤ k) ∧ Drawn0 w w')
 case atStart => exact ⟨(0),rs,H',⟨Nat.le_refl _⟩,drw⟩
 case round =>
  clear H'
  try clear c1
  try clear p2
  obtain ⟨x8_1,rfl,HA,HK1,⟨m1,rfl⟩⟩:=hrel
  cases gk with
  | zero => exact absurd HA.out (by simp [slices_Index_string_string.l0])
  | succ k1 =>
   have H:=HA.out
   clear HA
   simp only [slices_Index_string_string.l0] at H
   by_cases c3:x8_1 < (l0.length:Int)
   ·rw [if_pos c3] at H
    have c3b0:decide (x8_1 < (l0.length:Int)) = true:=decide_eq_true c3
    clear c3
    by_cases c4:0 ≤ x8_1
    ·rw [if_pos c4] at H
     have c4b0:decide (0 ≤ x8_1) = true:=decide_eq_true c4
     clear c4
     by_cases c5:x8_1 < (l0.length:Int)
     ·rw [if_pos c5] at H
      have c5b0:decide (x8_1 < (l0.length:Int)) = true:=decide_eq_true c5
      clear c5
      by_cases c6:a1.toList = (rdOf ByteArray.empty l0 x8_1).toList
      ·rw [if_pos c6] at H
       have c6b0:(a1.toList == (rdOf ByteArray.empty l0 x8_1).toList) = true:=beq_iff_eq.mpr c6
       have c6b1:(a1.toList != (rdOf ByteArray.empty l0 x8_1).toList) = false:=bne_eq_false_iff_eq.mpr c6
       clear c6
       obtain rfl:=Option.some.inj H
       have p101:0 ≤ (x8_1:Int):=of_decide_eq_true asm
       have q101:x8_1 < (l0.length:Int):=of_decide_eq_true asm
       obtain ⟨ad101,e101,hx101_0⟩:=Kd.at_string HR0.out x8_1 p101 q101
       cases e101
       replace p101:=eq_true p101
       replace q101:=eq_true q101
       go_wp2
       go_ret
       exact ⟨rs,drw⟩
      ·rw [if_neg c6] at H
       have c6b0:(a1.toList == (rdOf ByteArray.empty l0 x8_1).toList) = false:=beq_eq_false_iff_ne.mpr c6
       have c6b1:(a1.toList != (rdOf ByteArray.empty l0 x8_1).toList) = true:=bne_iff_ne.mpr c6
       have H':=Aside0.mk H
       clear H
       have p101:0 ≤ (x8_1:Int):=of_decide_eq_true asm
       have q101:x8_1 < (l0.length:Int):=of_decide_eq_true asm
       obtain ⟨ad101,e101,hx101_0⟩:=Kd.at_string HR0.out x8_1 p101 q101
       cases e101
       replace p101:=eq_true p101
       replace q101:=eq_true q101
       go_wp2
       go_roundg k1
       case measure => have:=HK1.out;omega
       case rel => exact ⟨(wrap64 (x8_1 + 1)),rs,H',⟨by have:=HK1.out;omega⟩,drw⟩
     ·rw [if_neg c5] at H
      exact absurd H (by simp)
    ·rw [if_neg c4] at H
     exact absurd H (by simp)
   ·rw [if_neg c3] at H
    have c3b0:decide (x8_1 < (l0.length:Int)) = false:=decide_eq_false c3
    clear c3
    obtain rfl:=Option.some.inj H
    go_wp2
    go_ret
    exact ⟨rs,drw⟩
def slices_Contains_string_string.f (k:Nat) (l0:List ByteArray) (a1:ByteArray):Option (Bool):=(slices_Index_string_string.f k l0 a1).bind fun t102 => (some (decide (t102 ≥ 0)))
set_option maxHeartbeats 8000000 in
set_option maxRecDepth 100000 in
theorem slices_Contains_string_string.calls (k:Nat) (A0:Option Addr) (c0:Nat) (l0:List ByteArray) (a1:ByteArray) (r:Bool) (w:World) (hr0:Kd.C Kd.string w A0 l0.length l0) (hc0:l0.length ≤ c0) (h:slices_Contains_string_string.f k l0 a1 = some r) :
  Calls Tryz.prog 90 #[.slice A0 l0.length c0,.string a1] w fun e w' => e = .returned (.bool r) ∧ Drawn0 w w':=by
 have HR0:=Aside0.mk hr0
 have HC0:=Aside0.mk hc0
 clear hr0 hc0
 have H:((slices_Index_string_string.f k l0 a1).bind fun t102 => (some (decide (t102 ≥ 0)))) = some r:=h
 clear h
 replace H:=Option.bind_eq_some_iff.mp H
 obtain ⟨t102,A30,H⟩:=H
 replace H:(some (decide (t102 ≥ 0))) = some r:=H
 have A3:=Aside0.mk A30
 clear A30
 obtain rfl:=Option.some.inj H
 go_enter Tryz.func90,Tryz.ntmps90
 go_wp2_with (first | ((with_reducible refine gate_callee (f:=163) rfl ?_);refine goesL_ (some 7) rfl rfl Tryz.func163 (by kernel_rfl) rfl #[.slice A0 l0.length c0,.string a1] rfl arg ?_;(with_reducible refine (slices_Index_string_string.calls k _ _ l0 a1 t102 _ ?side1 aso A3.out).mono ?_);(case side1 => repeat (first | exact HR0.out | (with_reducible refine Kd.C_alloc ?_ _) | (with_reducible refine Kd.C_drewN ?_ _) | (with_reducible refine Kd.C_drew ?_)));rintro e w' ⟨rfl,⟨nd,rfl⟩⟩;refine ⟨_,rfl,?_⟩))
 go_ret
 exact ⟨rs,drw⟩
def tally_wrong.l0:Nat → ByteArray → List Int → Int → Int → Option (Int)
 | 0,_,_,_,_ => none
 | k + 1,x0,x9,x10,x11 => if x11 < x10 then (if 0 ≤ x11 then (if x11 < (x9.length:Int) then (if (rd x9 x11) < 33 then (some 2) else (if (rd x9 x11) > 126 then (some 2) else (tally_wrong.l0 k x0 x9 x10 (wrap64 (x11 + 1))))) else (none)) else (none)) else ((strings_Split.f k x0 (⟨#[47]⟩:ByteArray)).bind fun t129 => ((slices_Contains_string_string.f k t129 (⟨#[]⟩:ByteArray)).bind fun t132 => (if t132 = true then (some 7) else (some 0))))
def tally_wrong.f (k:Nat) (a0:ByteArray):Option (Int):=if (a0.size:Int) > 60 then (some 3) else ((byt.f a0).bind fun t125 => (tally_wrong.l0 k a0 t125 (t125.length:Int) 0))
set_option maxHeartbeats 8000000 in
set_option maxRecDepth 100000 in
theorem tally_wrong.calls (k:Nat) (a0:ByteArray) (r:Int) (w:World) (h:tally_wrong.f k a0 = some r) :
  Calls Tryz.prog 105 #[.string a0] w fun e w' => e = .returned (.int .i64 r) ∧ Below w.heap.size w w':=by
 have HB:=Aside0.mk (Below.refl w.heap.size w)
 have H:(if (a0.size:Int) > 60 then (some 3) else ((byt.f a0).bind fun t125 => (tally_wrong.l0 k a0 t125 (t125.length:Int) 0))) = some r:=h
 clear h
 by_cases c2:(a0.size:Int) > 60
 ·rw [if_pos c2] at H
  have c2b0:decide (60 < (a0.size:Int)) = true:=decide_eq_true c2
  have c2b1:decide (60 < a0.size) = true:=decide_eq_true (by omega)
  clear c2
  obtain rfl:=Option.some.inj H
  go_enter Tryz.func105,Tryz.ntmps105
  go_wp2
  go_ret
  exact ⟨rr,bel⟩
 ·rw [if_neg c2] at H
  have c2b0:decide (60 < (a0.size:Int)) = false:=decide_eq_false c2
  have c2b1:decide (60 < a0.size) = false:=decide_eq_false (by omega)
  clear c2
  replace H:=Option.bind_eq_some_iff.mp H
  obtain ⟨t125,A30,H⟩:=H
  replace H:(tally_wrong.l0 k a0 t125 (t125.length:Int) 0) = some r:=H
  have A3:=Aside0.mk A30
  clear A30
  have H':=Aside0.mk H
  clear H
  go_enter Tryz.func105,Tryz.ntmps105
  have kc:=fun (w:World) => Lib.run_convert_string_bytes (P:=Tryz.prog) w 9 170 5 a0 Tryz.underlying9 Tryz.underlying170 Tryz.underlying5
  go_wp2_with (first | ((with_reducible refine gate_dst (N:=9) rfl ?_);refine conv_C ?hg (N:=9) ?hd (e:=5) (s:=a0) (xs:=t125) A3.out ?hr ?_;(case hd => rfl);(case hg => rfl);(case hr => first | (go_simp;done) | (go_simp;rfl));intro Ao5 co5 w4 ho0 hb;have n1_:=Aside0.mk (below_step bel hb);clear HB;have HO127:=Aside0.mk ho0;have HB:=n1_;clear n1_ hb ho0 kc))
  go_loopg [11] k (fun kq v11 w' => ∃ (x11_1:Int),v11 = .int .i64 x11_1 ∧ Aside0 (tally_wrong.l0 kq a0 t125 (t125.length:Int) x11_1 = some r) ∧ Aside0 (kq ≤ k) ∧ Aside0 (Kd.C (Kd.int .u8) w' Ao5 t125.length t125) ∧ Aside0 (Below w.heap.size w w'))
  case atStart => exact ⟨(0),rs,H',⟨Nat.le_refl _⟩,⟨skc⟩,⟨bel⟩⟩
  case round =>
   clear H'
   try clear c1
   try clear c2
   try clear c2b0
   try clear c2b1
   try clear p2
   try clear c5
   obtain ⟨x11_1,rfl,HA,HK1,HO_9,HB⟩:=hrel
   cases gk with
   | zero => exact absurd HA.out (by simp [tally_wrong.l0])
   | succ k1 =>
    have H:=HA.out
    clear HA
    simp only [tally_wrong.l0] at H
    by_cases c6:x11_1 < (t125.length:Int)
    ·rw [if_pos c6] at H
     have c6b0:decide (x11_1 < (t125.length:Int)) = true:=decide_eq_true c6
     clear c6
     by_cases c7:0 ≤ x11_1
     ·rw [if_pos c7] at H
      have c7b0:decide (0 ≤ x11_1) = true:=decide_eq_true c7
      clear c7
      by_cases c8:x11_1 < (t125.length:Int)
      ·rw [if_pos c8] at H
       have c8b0:decide (x11_1 < (t125.length:Int)) = true:=decide_eq_true c8
       clear c8
       by_cases c9:(rd t125 x11_1) < 33
       ·rw [if_pos c9] at H
        have c9b0:decide ((rd t125 x11_1) < 33) = true:=decide_eq_true c9
        clear c9
        obtain rfl:=Option.some.inj H
        have p128:0 ≤ (x11_1:Int):=of_decide_eq_true asm
        have q128:x11_1 < (t125.length:Int):=of_decide_eq_true asm
        obtain ⟨ad128,e128,hx128_0⟩:=Kd.at_int HO_9.out x11_1 p128 q128
        cases e128
        replace p128:=eq_true p128
        replace q128:=eq_true q128
        go_wp2
        go_ret
        exact ⟨rr,bel⟩
       ·rw [if_neg c9] at H
        have c9b0:decide ((rd t125 x11_1) < 33) = false:=decide_eq_false c9
        clear c9
        by_cases c10:(rd t125 x11_1) > 126
        ·rw [if_pos c10] at H
         have c10b0:decide (126 < (rd t125 x11_1)) = true:=decide_eq_true c10
         clear c10
         obtain rfl:=Option.some.inj H
         have p128:0 ≤ (x11_1:Int):=of_decide_eq_true asm
         have q128:x11_1 < (t125.length:Int):=of_decide_eq_true asm
         obtain ⟨ad128,e128,hx128_0⟩:=Kd.at_int HO_9.out x11_1 p128 q128
         cases e128
         replace p128:=eq_true p128
         replace q128:=eq_true q128
         go_wp2
         go_ret
         exact ⟨rr,bel⟩
        ·rw [if_neg c10] at H
         have c10b0:decide (126 < (rd t125 x11_1)) = false:=decide_eq_false c10
         clear c10
         have H':=Aside0.mk H
         clear H
         have p128:0 ≤ (x11_1:Int):=of_decide_eq_true asm
         have q128:x11_1 < (t125.length:Int):=of_decide_eq_true asm
         obtain ⟨ad128,e128,hx128_0⟩:=Kd.at_int HO_9.out x11_1 p128 q128
         cases e128
         replace p128:=eq_true p128
         replace q128:=eq_true q128
         go_wp2
         go_roundg k1
         case measure => have:=HK1.out;omega
         case rel => exact ⟨(wrap64 (x11_1 + 1)),rs,H',⟨by have:=HK1.out;omega⟩,⟨skc⟩,⟨bel⟩⟩
      ·rw [if_neg c8] at H
       exact absurd H (by simp)
     ·rw [if_neg c7] at H
      exact absurd H (by simp)
    ·rw [if_neg c6] at H
     have c6b0:decide (x11_1 < (t125.length:Int)) = false:=decide_eq_false c6
     clear c6
     replace H:=Option.bind_eq_some_iff.mp H
     obtain ⟨t129,A110,H⟩:=H
     replace H:((slices_Contains_string_string.f k1 t129 (⟨#[]⟩:ByteArray)).bind fun t132 => (if t132 = true then (some 7) else (some 0))) = some r:=H
     have A11:=Aside0.mk A110
     clear A110
     replace H:=Option.bind_eq_some_iff.mp H
     obtain ⟨t132,A120,H⟩:=H
     replace H:(if t132 = true then (some 7) else (some 0)) = some r:=H
     have A12:=Aside0.mk A120
     clear A120
     by_cases c13:t132 = true
     ·subst c13
      have H1:(some 7) = some r:=by rw [if_pos rfl] at H;exact H
      clear H
      have H:=H1
      clear H1
      obtain rfl:=Option.some.inj H
      go_wp2_with (first | ((with_reducible refine gate_callee (f:=187) rfl ?_);refine goesL_ (some 23) rfl rfl Tryz.func187 (by kernel_rfl) rfl #[.string a0,.string (⟨#[47]⟩:ByteArray)] rfl arg ?_;(with_reducible refine (strings_Split.calls k1 a0 (⟨#[47]⟩:ByteArray) t129 _ A11.out).mono ?_);rintro e w14 ⟨v130,rfl,ho0,hb⟩;refine ⟨_,rfl,?_⟩;have n0_:=Aside0.mk (Kd.C_below skc hb);have n1_:=Aside0.mk (Kd.R_lower ho0 (below_size bel));have n2_:=Aside0.mk (below_step bel hb);clear HO_9;clear HB;have HO_9:=n0_;have HO131:=n1_;have HB:=n2_;clear n0_ n1_ n2_;(try clear hb);(try clear hb2);(try clear hk);(try clear hi);(try clear ho0);obtain ⟨Ao15,co15,eo15⟩:=Kd.R_slice HO131.out;subst eo15) | ((with_reducible refine gate_callee (f:=90) rfl ?_);refine goesL_ (some 24) rfl rfl Tryz.func90 (by kernel_rfl) rfl #[.slice Ao15 t129.length co15,.string (⟨#[]⟩:ByteArray)] rfl arg ?_;(with_reducible refine (slices_Contains_string_string.calls k1 _ _ t129 (⟨#[]⟩:ByteArray) true _ ?side1 ?side2 A12.out).mono ?_);(case side1 => repeat (first | exact (Kd.R_reads' HO131.out).2.2 | (with_reducible refine Kd.C_alloc ?_ _) | (with_reducible refine Kd.C_drewN ?_ _) | (with_reducible refine Kd.C_drew ?_)));(case side2 => exact (Kd.R_reads' HO131.out).2.1);rintro e w' ⟨rfl,⟨nd,rfl⟩⟩;refine ⟨_,rfl,?_⟩))
      go_ret
      exact ⟨rr,bel⟩
     ·replace c13:=Bool.eq_false_iff.mpr c13
      subst c13
      have H1:(some 0) = some r:=by rw [if_neg (show ¬ (false = true) by decide)] at H;exact H
      clear H
      have H:=H1
      clear H1
      obtain rfl:=Option.some.inj H
      go_wp2_with (first | ((with_reducible refine gate_callee (f:=187) rfl ?_);refine goesL_ (some 23) rfl rfl Tryz.func187 (by kernel_rfl) rfl #[.string a0,.string (⟨#[47]⟩:ByteArray)] rfl arg ?_;(with_reducible refine (strings_Split.calls k1 a0 (⟨#[47]⟩:ByteArray) t129 _ A11.out).mono ?_);rintro e w16 ⟨v130,rfl,ho0,hb⟩;refine ⟨_,rfl,?_⟩;have n0_:=Aside0.mk (Kd.C_below skc hb);have n1_:=Aside0.mk (Kd.R_lower ho0 (below_size bel));have n2_:=Aside0.mk (below_step bel hb);clear HO_9;clear HB;have HO_9:=n0_;have HO131:=n1_;have HB:=n2_;clear n0_ n1_ n2_;(try clear hb);(try clear hb2);(try clear hk);(try clear hi);(try clear ho0);obtain ⟨Ao17,co17,eo17⟩:=Kd.R_slice HO131.out;subst eo17) | ((with_reducible refine gate_callee (f:=90) rfl ?_);refine goesL_ (some 24) rfl rfl Tryz.func90 (by kernel_rfl) rfl #[.slice Ao17 t129.length co17,.string (⟨#[]⟩:ByteArray)] rfl arg ?_;(with_reducible refine (slices_Contains_string_string.calls k1 _ _ t129 (⟨#[]⟩:ByteArray) false _ ?side1 ?side2 A12.out).mono ?_);(case side1 => repeat (first | exact (Kd.R_reads' HO131.out).2.2 | (with_reducible refine Kd.C_alloc ?_ _) | (with_reducible refine Kd.C_drewN ?_ _) | (with_reducible refine Kd.C_drew ?_)));(case side2 => exact (Kd.R_reads' HO131.out).2.1);rintro e w' ⟨rfl,⟨nd,rfl⟩⟩;refine ⟨_,rfl,?_⟩))
      go_ret
      exact ⟨rr,bel⟩
def text_Valid.l0:Nat → List Int → Int → Int → Option (Int)
 | 0,_,_,_ => none
 | k + 1,x9,x10,x11 => if x11 < x10 then (if 0 ≤ x11 then (if x11 < (x9.length:Int) then (if (rd x9 x11) < 32 then (some 2) else (if (rd x9 x11) > 126 then (some 2) else (text_Valid.l0 k x9 x10 (wrap64 (x11 + 1))))) else (none)) else (none)) else (some 0)
def text_Valid.f (k:Nat) (a0:ByteArray):Option (Int):=if (a0.size:Int) > 120 then (some 3) else ((byt.f a0).bind fun t133 => (text_Valid.l0 k t133 (t133.length:Int) 0))
set_option maxHeartbeats 8000000 in
set_option maxRecDepth 100000 in
theorem text_Valid.calls (k:Nat) (a0:ByteArray) (r:Int) (w:World) (h:text_Valid.f k a0 = some r) :
  Calls Tryz.prog 47 #[.string a0] w fun e w' => e = .returned (.int .i64 r) ∧ Below w.heap.size w w':=by
 have HB:=Aside0.mk (Below.refl w.heap.size w)
 have H:(if (a0.size:Int) > 120 then (some 3) else ((byt.f a0).bind fun t133 => (text_Valid.l0 k t133 (t133.length:Int) 0))) = some r:=h
 clear h
 by_cases c2:(a0.size:Int) > 120
 ·rw [if_pos c2] at H
  have c2b0:decide (120 < (a0.size:Int)) = true:=decide_eq_true c2
  have c2b1:decide (120 < a0.size) = true:=decide_eq_true (by omega)
  clear c2
  obtain rfl:=Option.some.inj H
  go_enter Tryz.func47,Tryz.ntmps47
  go_wp2
  go_ret
  exact ⟨rr,bel⟩
 ·rw [if_neg c2] at H
  have c2b0:decide (120 < (a0.size:Int)) = false:=decide_eq_false c2
  have c2b1:decide (120 < a0.size) = false:=decide_eq_false (by omega)
  clear c2
  replace H:=Option.bind_eq_some_iff.mp H
  obtain ⟨t133,A30,H⟩:=H
  replace H:(text_Valid.l0 k t133 (t133.length:Int) 0) = some r:=H
  have A3:=Aside0.mk A30
  clear A30
  have H':=Aside0.mk H
  clear H
  go_enter Tryz.func47,Tryz.ntmps47
  have kc:=fun (w:World) => Lib.run_convert_string_bytes (P:=Tryz.prog) w 9 170 5 a0 Tryz.underlying9 Tryz.underlying170 Tryz.underlying5
  go_wp2_with (first | ((with_reducible refine gate_dst (N:=9) rfl ?_);refine conv_C ?hg (N:=9) ?hd (e:=5) (s:=a0) (xs:=t133) A3.out ?hr ?_;(case hd => rfl);(case hg => rfl);(case hr => first | (go_simp;done) | (go_simp;rfl));intro Ao5 co5 w4 ho0 hb;have n1_:=Aside0.mk (below_step bel hb);clear HB;have HO135:=Aside0.mk ho0;have HB:=n1_;clear n1_ hb ho0 kc))
  go_loopg [11] k (fun kq v11 w' => ∃ (x11_1:Int),v11 = .int .i64 x11_1 ∧ Aside0 (text_Valid.l0 kq t133 (t133.length:Int) x11_1 = some r) ∧ Aside0 (kq ≤ k) ∧ Aside0 (Kd.C (Kd.int .u8) w' Ao5 t133.length t133) ∧ Aside0 (Below w.heap.size w w'))
  case atStart => exact ⟨(0),rs,H',⟨Nat.le_refl _⟩,⟨skc⟩,⟨bel⟩⟩
  case round =>
   clear H'
   try clear c2
   try clear c2b0
   try clear c2b1
   try clear p2
   try clear c5
   obtain ⟨x11_1,rfl,HA,HK1,HO_9,HB⟩:=hrel
   cases gk with
   | zero => exact absurd HA.out (by simp [text_Valid.l0])
   | succ k1 =>
    have H:=HA.out
    clear HA
    simp only [text_Valid.l0] at H
    by_cases c6:x11_1 < (t133.length:Int)
    ·rw [if_pos c6] at H
     have c6b0:decide (x11_1 < (t133.length:Int)) = true:=decide_eq_true c6
     clear c6
     by_cases c7:0 ≤ x11_1
     ·rw [if_pos c7] at H
      have c7b0:decide (0 ≤ x11_1) = true:=decide_eq_true c7
      clear c7
      by_cases c8:x11_1 < (t133.length:Int)
      ·rw [if_pos c8] at H
       have c8b0:decide (x11_1 < (t133.length:Int)) = true:=decide_eq_true c8
       clear c8
       by_cases c9:(rd t133 x11_1) < 32
       ·rw [if_pos c9] at H
        have c9b0:decide ((rd t133 x11_1) < 32) = true:=decide_eq_true c9
        clear c9
        obtain rfl:=Option.some.inj H
        have p136:0 ≤ (x11_1:Int):=of_decide_eq_true asm
        have q136:x11_1 < (t133.length:Int):=of_decide_eq_true asm
        obtain ⟨ad136,e136,hx136_0⟩:=Kd.at_int HO_9.out x11_1 p136 q136
        cases e136
        replace p136:=eq_true p136
        replace q136:=eq_true q136
        go_wp2
        go_ret
        exact ⟨rr,bel⟩
       ·rw [if_neg c9] at H
        have c9b0:decide ((rd t133 x11_1) < 32) = false:=decide_eq_false c9
        clear c9
        by_cases c10:(rd t133 x11_1) > 126
        ·rw [if_pos c10] at H
         have c10b0:decide (126 < (rd t133 x11_1)) = true:=decide_eq_true c10
         clear c10
         obtain rfl:=Option.some.inj H
         have p136:0 ≤ (x11_1:Int):=of_decide_eq_true asm
         have q136:x11_1 < (t133.length:Int):=of_decide_eq_true asm
         obtain ⟨ad136,e136,hx136_0⟩:=Kd.at_int HO_9.out x11_1 p136 q136
         cases e136
         replace p136:=eq_true p136
         replace q136:=eq_true q136
         go_wp2
         go_ret
         exact ⟨rr,bel⟩
        ·rw [if_neg c10] at H
         have c10b0:decide (126 < (rd t133 x11_1)) = false:=decide_eq_false c10
         clear c10
         have H':=Aside0.mk H
         clear H
         have p136:0 ≤ (x11_1:Int):=of_decide_eq_true asm
         have q136:x11_1 < (t133.length:Int):=of_decide_eq_true asm
         obtain ⟨ad136,e136,hx136_0⟩:=Kd.at_int HO_9.out x11_1 p136 q136
         cases e136
         replace p136:=eq_true p136
         replace q136:=eq_true q136
         go_wp2
         go_roundg k1
         case measure => have:=HK1.out;omega
         case rel => exact ⟨(wrap64 (x11_1 + 1)),rs,H',⟨by have:=HK1.out;omega⟩,⟨skc⟩,⟨bel⟩⟩
      ·rw [if_neg c8] at H
       exact absurd H (by simp)
     ·rw [if_neg c7] at H
      exact absurd H (by simp)
    ·rw [if_neg c6] at H
     have c6b0:decide (x11_1 < (t133.length:Int)) = false:=decide_eq_false c6
     clear c6
     obtain rfl:=Option.some.inj H
     go_wp2
     go_ret
     exact ⟨rr,bel⟩
end Go.Proofs.YtnbcnoabbdegpaaGreatDoor.V
