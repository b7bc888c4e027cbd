/- A part of the proof of the tied card of ProfileRate (chapter 53): the law returns true whatever the input. -/
import Derived.Test.YtnbcnoabbdegpaaGreatDoorZU1
import Derived.Test.YtnbcnoabbdegpaaGreatDoorZU4
import Derived.Test.YtnbcnoabbdegpaaGreatDoorZU2
set_option linter.unusedVariables false
set_option linter.unusedSimpArgs false
namespace Go.Proofs.YtnbcnoabbdegpaaGreatDoor.V
open Go.RowKit Go.Proofs.YtnbcnoabbdegpaaGreatDoorW.PrintWords Go.Proofs.YtnbcnoabbdegpaaGreatDoorW.PrintLast Go.Proofs.YtnbcnoabbdegpaaGreatDoorW.PrintMore
set_option linter.unusedVariables false
set_option linter.unusedSimpArgs false
section
variable {α:Type} {d:Kd α} {e base:Nat} {w w0 w1:World} {v:Value} {xs:List α}
theorem rdb {p:Prop} (h:p:=by first | exact (Kd.C_below (Aside0.out (by assumption)) bel) | exact rdc):p:=h
theorem sb {g:Nat} {o:Obj} (h:w.heap[g]? = some o:=by repeat (with_reducible first | exact (Aside0.out (by assumption)) | apply qs | apply far1 | apply blk_drewN | apply blk_drew | apply blk_alloc)):w.heap[g]? = some o:=h
theorem set2 {g:Nat} {t:TypeId} {a b a' b':Value} (h:w.heap[g]? = some (.cells #[a,b] t (0,0))):((w.setCell ⟨g,0,none⟩ a').setCell ⟨g,1,none⟩ b').heap[g]? = some (.cells #[a',b'] t (0,0)):=blk_put (blk_put h 0 a' rfl) 1 b' rfl
theorem set4 {g:Nat} {t:TypeId} {a b c d a' b' c' d':Value} (h:w.heap[g]? = some (.cells #[a,b,c,d] t (0,0))):((((w.setCell ⟨g,0,none⟩ a').setCell ⟨g,1,none⟩ b').setCell ⟨g,2,none⟩ c').setCell ⟨g,3,none⟩ d').heap[g]? = some (.cells #[a',b',c',d'] t (0,0)):=blk_put (blk_put (blk_put (blk_put h 0 a' rfl) 1 b' rfl) 2 c' rfl) 3 d' rfl
theorem oc1 {W0 W:World} {a:Addr} {x:Value} (h:Aside0 (W0.cell? a = some x)) (hb:Below W0.heap.size W0 W:=by exact bel):W.cell? a = some x:=(hb.cell (World.block_lt_of_cell? W0 _ h.out)).trans h.out
theorem hc {g:Nat} {cs:Array Value} {t:TypeId} (i:Nat) (B:w.heap[g]? = some (.cells cs t (0,0)):=by repeat (with_reducible first | exact (Aside0.out (by assumption)) | apply qs | apply far1 | apply blk_drewN | apply blk_drew | apply blk_alloc)) (hv:cs[i]? = some v:=by rfl):w.cell? ⟨g,i,none⟩ = some v:=(blk_cell B i).trans hv
theorem rfar {g i t:Nat} {cs:Array Value} {u:Value} (h:d.R e w base (fun _ => True) v xs) (B:w.heap[g]? = some (.cells cs t (0,0))) (hne:∀ q,q ∈ e :: d.E → q ≠ t):d.R e (w.setCell ⟨g,i,none⟩ u) base (fun _ => True) v xs:=
 Kd.R_mono (Kd.R_far (p:=⟨g,i,none⟩) (Kd.R_types h B hne) (fun _ hk => hk.2) u) (fun _ _ => trivial)
theorem rx (h:d.R e w base (fun _ => True) v xs:=by repeat (first | (with_reducible first | exact (Aside0.out (by assumption)) | apply Kd.R_alloc | apply Kd.R_drewN | apply Kd.R_drew) | refine rfar ?_ sb (by decide))):d.R e w base (fun _ => True) v xs:=h
theorem rbl (H:Aside0 (d.R e w0 base (fun _ => True) v xs)) (hb:Below w.heap.size w w1) (h:d.R e w base (fun _ => True) v xs:=by exact rx):Aside0 (d.R e w1 base (fun _ => True) v xs):=⟨Kd.R_below h hb⟩
theorem rC {A:Option Addr} {n c:Nat} (H:Aside0 (d.R e w0 base (fun _ => True) (.slice A n c) xs)) (h:d.R e w base (fun _ => True) (.slice A n c) xs:=by exact rx):d.C w A xs.length xs:=(Kd.R_reads' h).2.2
theorem rL {A:Option Addr} {n c:Nat} (H:Aside0 (d.R e w0 base (fun _ => True) (.slice A n c) xs)):n ≤ c:=(Kd.R_reads' H.out).2.1
theorem rlo (ho:d.R e w1 w.heap.size (fun _ => True) v xs) (h:Below w0.heap.size w0 w:=by exact bel):Aside0 (d.R e w1 w0.heap.size (fun _ => True) v xs):=⟨Kd.R_lower ho (below_size h)⟩
end
section
variable {P:Program} {ops:Array Oper} {a:Act} {w:World} {Q:Exit → Act → World → Prop} {S:World → Prop} {ds:List Nat} {md:Region.Mode} {T:Bool × List (List Nat × List Nat)} {B:List Nat} {fuel:Nat} {l l':Array Bool}
theorem stt {id:Nat} (n:Nat) (S:World → Prop) (ds:List Nat) (T:Bool × List (List Nat × List Nat)) (B:List Nat) (hT:rtab .any ops = T) (hB:waitsOk T.2 B = true) (hS:S w.drew)
  (h:∀ W,Below w.heap.size w W → S W → Aside0 (rtab .any ops = T) → Aside0 (waitsOk T.2 B = true) → wpAnyLast P .any ops Q S ds n l a W) (hn:ops.size = n:=by rfl) (hl:Array.replicate n false = l:=by (simp only [Array.replicate_succ,Array.replicate_zero,List.push_toArray,List.nil_append,List.cons_append];exact rfl)) (hm:P.follows .mixedOrders = true:=by kernel_rfl):(Code.region id ops true).wp P Q a w:=
 start_ _ hm hn hl hS fun h1 => h _ (below_drew1 (Below.refl _ _)) h1 ⟨hT⟩ ⟨hB⟩
theorem nrm {a':Act} (h:wpAnyLast P md ops Q S ds fuel l a' w) (ha:a = a':=by (simp only [Act.put,List.setIfInBounds_toArray,List.set_cons_zero,List.set_cons_succ,i64_w];rfl)):wpAnyLast P md ops Q S ds fuel l a w:=norm_ ha h
theorem one_T {i:Nat} (hT:rtab md ops = T) (hl:(l.toList.set i true).toArray = l') (hc:readyT T.2 l.toList = [i]):readyB md ops l l' i = true:=one_of hT (by subst hl;simp [hc])
theorem cal (i:Nat) {N:Option Tmp} {oi:Oper} {f:FuncId} {fn:Func} {zs:Array Operand} {ts:Array TypeId} (hf:P.funcs[f]? = some fn) (args:Array Value)
  (h:Calls P f args w fun e w' => ∃ v,e = .returned v ∧ S w' ∧ (S w' → wpAnyLast P md ops Q S ds fuel l' (a.put N v) w'))
  (hi:ops[i]? = some oi:=by (simp only [List.getElem?_toArray,List.getElem?_cons_succ,List.getElem?_cons_zero];exact rfl)) (hN:oi.dst = N:=by exact rfl) (hl:(l.toList.set i true).toArray = l':=by (simp only [List.set_cons_succ,List.set_cons_zero];exact rfl)) (hT:rtab md ops = T:=by exact (Aside0.out (by assumption))) (hc:readyT T.2 l.toList = [i]:=by kernel_rfl) (hd:i ∉ ds:=by decide)
  (hname:(fn.name == "runtime.NumGoroutine") = false:=by kernel_rfl) (hb:fn.body.isSome = true:=by rfl) (hw:Region.wanted oi (yielded ops a.tmps) = true:=by rfl) (hop:oi.op = .call { callee:=.value (.func f),args:=zs,argTypes:=ts }:=by rfl) (hargs:zs.map a.eval = args:=by (simp only [List.map_toArray,List.map_cons,List.map_nil];exact rfl)) :
  wpAnyLast P md ops Q S ds (fuel + 1) l a w:=
 one_ l' hi hN (one_T hT hl hc) hd fun K hK => goes_ hf hname hb args hw hN hop hargs (h.mono fun e w' ⟨v,h1,h2,h3⟩ => ⟨v,h1,hK _ _ h2 h3⟩)
theorem dne (h:Q .normal a w) (hT:rtab md ops = T:=by exact (Aside0.out (by assumption))) (hz:readyT T.2 l.toList = []:=by kernel_rfl):wpAnyLast P md ops Q S ds fuel l a w:=done_ (done_of hT (by simp [hz])) h
theorem lst (i:Nat) {oi:Oper} {w1:World} (h:Q .normal a w1)
  (hi:ops[i]? = some oi:=by (simp only [List.getElem?_toArray,List.getElem?_cons_succ,List.getElem?_cons_zero];exact rfl)) (hN:oi.dst = none:=by exact rfl) (hT:rtab md ops = T:=by exact (Aside0.out (by assumption))) (hc:readyT T.2 l.toList = [i]:=by kernel_rfl) (hd:i ∈ ds:=by decide) (hz:readyT T.2 (l.toList.set i true) = []:=by kernel_rfl)
  (hw:Region.wanted oi (yielded ops a.tmps) = true:=by rfl) (hrun:(execOp a.eval oi).run P w = .ok .skip w1:=by (go_simp;rfl)):wpAnyLast P md ops Q S ds (fuel + 1) l a w:=
 last_ _ hi hN (one_T hT rfl hc) hd fun K hK => skip_ hw hN hrun (hK _ _ (done_ (done_of hT (by simp [hz])) h))
end
abbrev RI (W w:World) (v:Value) (xs:List Int):Prop:=Kd.R (Kd.int .i64) 3 W w.heap.size (fun _ => True) v xs
section
variable {α β:Type} {d:Kd α} {d':Kd β} {e e' base base':Nat} {w W w1:World} {u v:Value} {xs:List α} {ys:List β} {ok:Nat → Prop}
theorem bgr (g:Nat) {cs:Array Value} {t:TypeId} (hs:d'.R e' W base' ok v ys) (hg:W.grownBy w1 v.ownBlock) (h:W.heap[g]? = some (.cells cs t (0,0)):=by exact sb) (ht:e' ≠ t:=by decide):Aside0 (w1.heap[g]? = some (.cells cs t (0,0))):=⟨blk_grown h hg (Kd.R_ne hs h ht)⟩
end
section
variable {ops:Array Oper} {rest:List Oper} {o:Oper} {a:Act} {Q:Exit → Act → World → Prop} {W w:World} {v:Value}
theorem apI {xs:List Int} {p:Int} (s x:Tmp) {W0:World} (O:Aside0 (RI W0 w v xs)) (L:Aside0 (xs.length < 17592186044416))
  (h:∀ v1 w1,Aside0 (RI w1 w v1 (xs ++ [p])) → Aside0 (Below w.heap.size w w1) → RI W w v xs → W.grownBy w1 v.ownBlock → wpList Tryz.prog ops Q rest (a.put o.dst v1) w1)
  (hgd:o.guard = none:=by rfl) (ho:o.op = .call { callee:=.builtin .append,args:=#[.tmp s,.tmp x],argTypes:=#[24,24] }:=by rfl) (hs:a.eval (.tmp s) = v:=by rfl) (hx:a.eval (.tmp x) = .slice (some ⟨W.heap.size,0,none⟩) 1 1:=by first | rfl | (go_simp;done) | (go_simp;rfl))
  (HO:RI W w v xs:=by exact rx) (HB:Below w.heap.size w W:=by exact bel):wpList Tryz.prog ops Q (o :: rest) a (W.alloc (.cells [.int .i64 p].toArray 3)):=
 Kd.R_append (Kd.int .i64) w.heap.size hgd (.tmp s) (.tmp x) 24 3 (.int .i64 0) 8 ho Tryz.underlying24 info3 rfl (by decide) (by omega) v xs p [.int .i64 p] (fun _ => True) (fun _ => False) hs hx rfl (fun _ hk => hk.elim) (fun _ _ => trivial) HO HB (below_size HB) (by have:=L.out;omega)
  fun v1 w1 h1 h2 h3 _ => h v1 w1 ⟨h1⟩ ⟨h2⟩ HO h3
end
section
variable {P:Program} {ops:Array Oper} {a:Act} {w:World} {Q:Exit → Act → World → Prop} {S:World → Prop} {ds:List Nat} {md:Region.Mode} {T:Bool × List (List Nat × List Nat)} {fuel:Nat} {l l' lj:Array Bool}
theorem onA (i:Nat) {N:Option Tmp} {oi:Oper}
  (h:∀ K:Act → World → Prop,Shut (∀ a' w',S w' → (S w' → wpAnyLast P md ops Q S ds fuel l' a' w') → K a' w') → if Region.wanted oi (yielded ops a.tmps) = true then Oper.wp P oi a w K Q else K (a.put N undef) w)
  (hi:ops[i]? = some oi:=by (simp only [List.getElem?_toArray,List.getElem?_cons_succ,List.getElem?_cons_zero];exact rfl)) (hN:oi.dst = N:=by exact rfl) (hl:(l.toList.set i true).toArray = l':=by (simp only [List.set_cons_succ,List.set_cons_zero];exact rfl)) (hT:rtab md ops = T:=by exact (Aside0.out (by assumption))) (hc:readyT T.2 l.toList = [i]:=by kernel_rfl) (hd:i ∉ ds:=by decide):wpAnyLast P md ops Q S ds (fuel + 1) l a w:=
 one_ l' hi hN (one_T hT hl hc) hd h
theorem twA (i j:Nat) {N M:Option Tmp} {oi oj:Oper}
  (h:∀ K:Act → World → Prop,Shut (∀ a' w',S w' → (S w' → wpAnyLast P md ops Q S ds fuel l' a' w') → K a' w') → if Region.wanted oi (yielded ops a.tmps) = true then Oper.wp P oi a w K Q else K (a.put N undef) w)
  (h2:∀ K:Act → World → Prop,Shut (∀ a' w',S w' → (S w' → wpAnyLast P md ops Q S ds fuel lj a' w') → K a' w') → if Region.wanted oj (yielded ops a.tmps) = true then Oper.wp P oj a w K Q else K (a.put M undef) w)
  (hi:ops[i]? = some oi:=by (simp only [List.getElem?_toArray,List.getElem?_cons_succ,List.getElem?_cons_zero];exact rfl)) (hj:ops[j]? = some oj:=by (simp only [List.getElem?_toArray,List.getElem?_cons_succ,List.getElem?_cons_zero];exact rfl)) (hN:oi.dst = N:=by exact rfl) (hM:oj.dst = M:=by exact rfl)
  (hl:(l.toList.set i true).toArray = l':=by (simp only [List.set_cons_succ,List.set_cons_zero];exact rfl)) (hlj:(l.toList.set j true).toArray = lj:=by (simp only [List.set_cons_succ,List.set_cons_zero];exact rfl)) (hT:rtab md ops = T:=by exact (Aside0.out (by assumption))) (hc:readyT T.2 l.toList = [i,j]:=by kernel_rfl) (hd:i ∉ ds:=by decide) (hd2:j ∉ ds:=by decide):wpAnyLast P md ops Q S ds (fuel + 1) l a w:=
 two_ l' lj hi hj hN hM (two_of hT (by subst hl hlj;simp [hc])) hd hd2 h h2
theorem lst0 (i:Nat) {oi:Oper} {w1:World} (h:wpAnyLast P md ops Q S ds fuel l' a w1)
  (hi:ops[i]? = some oi:=by (simp only [List.getElem?_toArray,List.getElem?_cons_succ,List.getElem?_cons_zero];exact rfl)) (hN:oi.dst = none:=by exact rfl) (hl:(l.toList.set i true).toArray = l':=by (simp only [List.set_cons_succ,List.set_cons_zero];exact rfl)) (hT:rtab md ops = T:=by exact (Aside0.out (by assumption))) (hc:readyT T.2 l.toList = [i]:=by kernel_rfl) (hd:i ∈ ds:=by decide)
  (hw:Region.wanted oi (yielded ops a.tmps) = true:=by rfl) (hrun:(execOp a.eval oi).run P w = .ok .skip w1:=by (go_simp;rfl)):wpAnyLast P md ops Q S ds (fuel + 1) l a w:=
 last_ l' hi hN (one_T hT hl hc) hd fun K hK => skip_ hw hN hrun (hK _ _ h)
theorem nrp {a':Act} (h:wpAnyLast P md ops Q S ds fuel l a' w) (ha:a = a':=by first | (simp only [putAll,Act.put,List.setIfInBounds_toArray,List.set_cons_zero,List.set_cons_succ];done) | (simp only [putAll,Act.put,List.setIfInBounds_toArray,List.set_cons_zero,List.set_cons_succ];rfl)):wpAnyLast P md ops Q S ds fuel l a w:=norm_ ha h
end
section
variable {ops:Array Oper} {a:Act} {W w:World} {Q:Exit → Act → World → Prop} {S:World → Prop} {ds:List Nat} {md:Region.Mode} {fuel:Nat} {l':Array Bool} {v:Value} {N:Tmp} {oi:Oper} {K:Act → World → Prop}
theorem kbx {P:Program} {K:Act → World → Prop} (hK:Shut (∀ a' w',S w' → (S w' → wpAnyLast P md ops Q S ds fuel l' a' w') → K a' w')) (cs:Array Value) (t:TypeId)
  (h:∀ g,g = W.heap.size → ∀ w1,w1.heap[g]? = some (.cells cs t (0,0)) → Below W.heap.size W w1 → S w1 ∧ (S w1 → wpAnyLast P md ops Q S ds fuel l' (a.put (some N) (.pointer (some ⟨g,0,none⟩))) w1)) (hN:oi.dst = some N:=by exact rfl) (hw:Region.wanted oi (yielded ops a.tmps) = true:=by rfl)
  (hrun:(execOp a.eval oi).run P W = .ok (.value (.pointer (some ⟨W.heap.size,0,none⟩))) (W.alloc (.cells cs t (0,0))):=by first | (go_simp;done) | (go_simp;rfl)):if Region.wanted oi (yielded ops a.tmps) = true then Oper.wp P oi a W K Q else K (a.put (some N) undef) W:=
 value_ hw hN hrun (hK _ _ (h _ rfl _ (blk_new W _) (below_alloc (Below.refl _ _) _)).1 (h _ rfl _ (blk_new W _) (below_alloc (Below.refl _ _) _)).2)
end
set_option maxHeartbeats 8000000
set_option maxRecDepth 100000
def tally_Valid.l0:Nat → Int → Int → List ByteArray → List Int → Option (Int)
 | 0,_,_,_,_ => none
 | k + 1,x18,x19,x278000,x278001 => if x19 < x18 then ((tally_entry.f k x278000 x278001 x19).bind fun t278 => (if t278 = 0 then (tally_Valid.l0 k x18 (wrap64 (x19 + 1)) x278000 x278001) else (some t278))) else (some 0)
def tally_Valid.f (k:Nat) (l0_0:List ByteArray) (l0_1:List Int):Option (Int):=if (l0_0.length:Int) = (l0_1.length:Int) then (if (l0_0.length:Int) > 2000 then (some 3) else (tally_Valid.l0 k (l0_0.length:Int) 0 l0_0 l0_1)) else (some 1)
theorem tally_Valid.calls (k:Nat) (A0_0:Option Addr) (c0_0:Nat) (l0_0:List ByteArray) (A0_1:Option Addr) (c0_1:Nat) (l0_1:List Int) (r:Int) (w:World) (hr0_0:Kd.C Kd.string w A0_0 l0_0.length l0_0) (hc0_0:l0_0.length ≤ c0_0) (hr0_1:Kd.C (Kd.int .i64) w A0_1 l0_1.length l0_1) (hc0_1:l0_1.length ≤ c0_1) (h:tally_Valid.f k l0_0 l0_1 = some r) :
  Calls Tryz.prog 48 #[.agg #[.slice A0_0 l0_0.length c0_0,.slice A0_1 l0_1.length c0_1]] w fun e w' => e = .returned (.int .i64 r) ∧ Below w.heap.size w w':=by
 have hu26:=Tryz.underlying26
 have HB:=am (Below.refl w.heap.size w)
 have H:=am h
 clear h
 unfold tally_Valid.f at H
 have R0_0:=am hr0_0
 have R0_1:=am hr0_1
 have C0_0:=am hc0_0
 have C0_1:=am hc0_1
 clear hr0_0 hr0_1 hc0_0 hc0_1
 go_enter Tryz.func48,Tryz.ntmps48
 go_wp2_with (first | ((with_reducible refine gate_dst (N:=1) rfl ?_);refine bx 1 #[.slice A0_0 l0_0.length c0_0,.slice A0_1 l0_1.length c0_1] 26 ?_;intro g1 w1 b1 hb;have B1:=am b1;replace HB:=bst hb;clear hb b1;obtain ⟨⟨z0,z1⟩,f0,f1⟩:=cf2 B1.out))
 ·obtain rfl:=sj (iF H (bne_iff_ne.mp (by assumption)))
  go_ret
  exact ⟨rr,bel⟩
 ·obtain rfl:=sj (iT (iT H (bne_eq_false_iff_eq.mp (by assumption))) (by omega))
  go_ret
  exact ⟨rr,bel⟩
 ·have q:((l0_0.length:Int) != (l0_1.length:Int)) = false:=by assumption
  replace H:=iF (iT H (bne_eq_false_iff_eq.mp q)) (by omega)
  rw [q]
  go_loopg [19] k (fun kq v19 w' => ∃ (x:Int),v19 = .int .i64 x ∧ Aside0 (tally_Valid.l0 kq (l0_0.length:Int) x l0_0 l0_1 = some r) ∧ Aside0 (w'.heap[g1]? = some (.cells #[.slice A0_0 l0_0.length c0_0,.slice A0_1 l0_1.length c0_1] 26 (0,0))) ∧ Aside0 (Below w.heap.size w w'))
  case atStart => exact ⟨0,rs,H,⟨skb⟩,⟨bel⟩⟩
  case round =>
   clear H z0 z1 f0 f1
   obtain ⟨x,rfl,H,B1,HB⟩:=hrel
   cases gk with
   | zero => exact absurd H.out (by simp [tally_Valid.l0])
   | succ k1 =>
    simp only [tally_Valid.l0] at H
    obtain ⟨⟨z0,z1⟩,f0,f1⟩:=cf2 B1.out
    go_wp2_with (first | (go_at_call 104;obtain ⟨t,A,H⟩:=bE (iT H (by assumption));refine (tally_entry.calls k1 _ _ l0_0 _ _ l0_1 x t _ rdc aso rdc aso A.out).mono ?_;rintro e w3 ⟨rfl,hb⟩;replace B1:=bbl g1 hb;replace HB:=bst hb;clear hb z0 z1 f0 f1))
    ·obtain rfl:=sj (bT H (by assumption))
     go_ret
     exact ⟨rr,bel⟩
    ·go_roundg k1
     case measure => omega
     case rel => exact ⟨_,rs,bF H (by assumption),⟨skb⟩,⟨bel⟩⟩
    ·obtain rfl:=sj (iF H (by omega))
     go_ret
     exact ⟨rr,bel⟩
def profile_valid.l0:Nat → List (S72) → Int → Int → ByteArray → List (S72) → List ByteArray → List Int → Option (Int)
 | 0,_,_,_,_,_,_,_ => none
 | k + 1,x17,x18,x19,x280000,x280001,x280002,x280003 => if x19 < x18 then (if 0 ≤ x19 then (if x19 < (x17.length:Int) then ((text_Valid.f k ((rd_T72 x17 x19).f0)).bind fun t284 => (if t284 = 0 then ((token_IsName.f k ((rd_T72 x17 x19).f1)).bind fun t285 => (if t285 = true then (profile_valid.l0 k x17 x18 (wrap64 (x19 + 1)) x280000 x280001 x280002 x280003) else (some 2))) else (some t284))) else (none)) else (none)) else ((tally_Valid.f k x280002 x280003).bind fun t281 => (some t281))
def profile_valid.f (k:Nat) (a0_0:ByteArray) (l0_1:List (S72)) (l0_2:List ByteArray) (l0_3:List Int):Option (Int):=(token_IsName.f k a0_0).bind fun t280 => (if t280 = true then (if (l0_1.length:Int) > 200 then (some 3) else (profile_valid.l0 k l0_1 (l0_1.length:Int) 0 a0_0 l0_1 l0_2 l0_3)) else (some 2))
theorem profile_valid.calls (k:Nat) (a0_0:ByteArray) (A0_1:Option Addr) (c0_1:Nat) (l0_1:List (S72)) (A0_2:Option Addr) (c0_2:Nat) (l0_2:List ByteArray) (A0_3:Option Addr) (c0_3:Nat) (l0_3:List Int) (r:Int) (w:World) (hr0_1:Kd.C k72 w A0_1 l0_1.length l0_1) (hc0_1:l0_1.length ≤ c0_1) (hr0_2:Kd.C Kd.string w A0_2 l0_2.length l0_2) (hc0_2:l0_2.length ≤ c0_2) (hr0_3:Kd.C (Kd.int .i64) w A0_3 l0_3.length l0_3) (hc0_3:l0_3.length ≤ c0_3) (h:profile_valid.f k a0_0 l0_1 l0_2 l0_3 = some r) :
  Calls Tryz.prog 20 #[.agg #[.string a0_0,.slice A0_1 l0_1.length c0_1,.slice A0_2 l0_2.length c0_2,.slice A0_3 l0_3.length c0_3]] w fun e w' => e = .returned (.int .i64 r) ∧ Below w.heap.size w w':=by
 have hu28:=Tryz.underlying28
 have hu72:=Tryz.underlying72
 have hu26:=Tryz.underlying26
 have HB:=am (Below.refl w.heap.size w)
 obtain ⟨t,A,H⟩:=bE (am h)
 clear h
 have R0_1:=am hr0_1
 have R0_2:=am hr0_2
 have R0_3:=am hr0_3
 have C0_1:=am hc0_1
 have C0_2:=am hc0_2
 have C0_3:=am hc0_3
 clear hr0_1 hr0_2 hr0_3 hc0_1 hc0_2 hc0_3
 go_enter Tryz.func20,Tryz.ntmps20
 go_wp2_with (first | ((with_reducible refine gate_dst (N:=1) rfl ?_);refine bx 1 #[.string a0_0,.slice A0_1 l0_1.length c0_1,.slice A0_2 l0_2.length c0_2,.slice A0_3 l0_3.length c0_3] 28 ?_;intro g1 w1 b1 hb;have B1:=am b1;replace HB:=bst hb;clear hb b1;obtain ⟨⟨z0,z1,z2,z3⟩,f0,f1,f2,f3⟩:=cf4 B1.out) | (go_at_call 30;refine (token_IsName.calls k a0_0 t _ A.out).mono ?_;rintro e w2 ⟨rfl,⟨nd,rfl⟩⟩))
 ·obtain rfl:=sj (nT H (by assumption))
  go_ret
  exact ⟨rr,bel⟩
 ·obtain rfl:=sj (iT (nF H (by assumption)) (by omega))
  go_ret
  exact ⟨rr,bel⟩
 ·replace H:=iF (nF H (by assumption)) (by omega)
  have q:(!t) = false:=by assumption
  obtain rfl:t = true:=by simpa using q
  simp only [Bool.not_true]
  go_loopg [19] k (fun kq v19 w' => ∃ (x:Int),v19 = .int .i64 x ∧ Aside0 (profile_valid.l0 kq l0_1 (l0_1.length:Int) x a0_0 l0_1 l0_2 l0_3 = some r) ∧ Aside0 (w'.heap[g1]? = some (.cells #[.string a0_0,.slice A0_1 l0_1.length c0_1,.slice A0_2 l0_2.length c0_2,.slice A0_3 l0_3.length c0_3] 28 (0,0))) ∧ Aside0 (Below w.heap.size w w'))
  case atStart => exact ⟨0,rs,H,⟨skb⟩,⟨bel⟩⟩
  case round =>
   clear H z0 z1 z2 z3 f0 f1 f2 f3 q
   obtain ⟨x,rfl,H,B1,HB⟩:=hrel
   cases gk with
   | zero => exact absurd H.out (by simp [profile_valid.l0])
   | succ k1 =>
    simp only [profile_valid.l0] at H
    by_cases c:x < (l0_1.length:Int)
    ·obtain ⟨p,H⟩:=jn (iT H c)
     obtain ⟨_,H⟩:=jn H
     obtain ⟨t,A2,H⟩:=bE H
     have cd:=decide_eq_true c
     obtain ⟨ad,e0,hx0,hx1⟩:=at_T72 R0_1.out x p c
     cases e0
     replace hx0:=(HB.out.cell (World.block_lt_of_cell? w _ hx0)).trans hx0
     replace hx1:=(HB.out.cell (World.block_lt_of_cell? w _ hx1)).trans hx1
     replace p:=eq_true p
     replace c:=eq_true c
     go_wp2_with (first | ((with_reducible refine gate_dst (N:=4) rfl ?_);refine bxe 4 #[.string ⟨#[]⟩,.string ⟨#[]⟩] 72 ?_;intro g2 eg w2 b2 hb;have N12:=nel g1 eg;have N21:=ner g1 eg;have G2:=szl eg;replace B1:=bbl g1 hb;have B2:=am b2;replace HB:=bst hb;clear hb b2 eg;have n1:=N12.out;have n2:=N21.out;obtain ⟨⟨y0,y1⟩,e0,e1⟩:=cf2 B2.out) | (go_at_call 47;refine (text_Valid.calls k1 _ t _ A2.out).mono ?_;rintro e w3 ⟨rfl,hb⟩;replace B1:=bbl g1 hb;replace B2:=bbl g2 hb;replace HB:=bst hb;clear hb y0 y1 e0 e1;obtain ⟨⟨y0,y1⟩,e0,e1⟩:=cf2 B2.out) | (go_at_call 30;obtain ⟨t2,A3,H⟩:=bE (bF H (by assumption));refine (token_IsName.calls k1 _ t2 _ A3.out).mono ?_;rintro e w' ⟨rfl,⟨nd,rfl⟩⟩))
     ·obtain rfl:=sj (bT H (by assumption))
      go_ret
      exact ⟨rr,bel⟩
     ·obtain rfl:=sj (nT H (by assumption))
      go_ret
      exact ⟨rr,bel⟩
     ·go_roundg k1
      case measure => omega
      case rel => exact ⟨_,rs,nF H (by assumption),⟨skb⟩,⟨bel⟩⟩
    ·obtain ⟨t,A2,H⟩:=bE (iF H c)
     obtain rfl:=sj H
     have cd:=decide_eq_false c
     obtain ⟨⟨z0,z1,z2,z3⟩,f0,f1,f2,f3⟩:=cf4 B1.out
     go_wp2_with (first | (go_at_call 48;refine (tally_Valid.calls k1 _ _ l0_2 _ _ l0_3 t _ rdc aso rdc aso A2.out).mono ?_;rintro e w3 ⟨rfl,hb⟩;replace HB:=bst hb;clear hb))
     go_ret
     exact ⟨rr,bel⟩
def ancepsref53_Valid.l0:Nat → Int → ByteArray → List (S72) → List ByteArray → List Int → Option (Int)
 | 0,_,_,_,_,_ => none
 | k + 1,x3,x160000,x160001,x160002,x160003 => if x3 < (x160001.length:Int) then (if 0 ≤ x3 then ((ancepsref01_Valid.f k ((rd_T72 x160001 x3).f0)).bind fun t163 => (if t163 = 0 then ((ancepsref05_IsName.f k ((rd_T72 x160001 x3).f1)).bind fun t165 => (if t165 = true then (ancepsref53_Valid.l0 k (wrap64 (x3 + 1)) x160000 x160001 x160002 x160003) else (some 2))) else (some t163))) else (none)) else ((ancepsref50_Valid.f k x160002 x160003).bind fun t161 => (some t161))
def ancepsref53_Valid.f (k:Nat) (a0_0:ByteArray) (l0_1:List (S72)) (l0_2:List ByteArray) (l0_3:List Int):Option (Int):=(ancepsref05_IsName.f k a0_0).bind fun t160 => (if t160 = true then (if (l0_1.length:Int) > 200 then (some 3) else (ancepsref53_Valid.l0 k 0 a0_0 l0_1 l0_2 l0_3)) else (some 2))
theorem ancepsref53_Valid.calls (k:Nat) (a0_0:ByteArray) (A0_1:Option Addr) (c0_1:Nat) (l0_1:List (S72)) (A0_2:Option Addr) (c0_2:Nat) (l0_2:List ByteArray) (A0_3:Option Addr) (c0_3:Nat) (l0_3:List Int) (r:Int) (w:World) (hr0_1:Kd.C k72 w A0_1 l0_1.length l0_1) (hc0_1:l0_1.length ≤ c0_1) (hr0_2:Kd.C Kd.string w A0_2 l0_2.length l0_2) (hc0_2:l0_2.length ≤ c0_2) (hr0_3:Kd.C (Kd.int .i64) w A0_3 l0_3.length l0_3) (hc0_3:l0_3.length ≤ c0_3) (h:ancepsref53_Valid.f k a0_0 l0_1 l0_2 l0_3 = some r) :
  Calls Tryz.prog 27 #[.agg #[.string a0_0,.slice A0_1 l0_1.length c0_1,.slice A0_2 l0_2.length c0_2,.slice A0_3 l0_3.length c0_3]] w fun e w' => e = .returned (.int .i64 r) ∧ Below w.heap.size w w':=by
 have hu28:=Tryz.underlying28
 have hu72:=Tryz.underlying72
 have hu26:=Tryz.underlying26
 have HB:=am (Below.refl w.heap.size w)
 obtain ⟨t,A,H⟩:=bE (am h)
 clear h
 have R0_1:=am hr0_1
 have R0_2:=am hr0_2
 have R0_3:=am hr0_3
 have C0_1:=am hc0_1
 have C0_2:=am hc0_2
 have C0_3:=am hc0_3
 clear hr0_1 hr0_2 hr0_3 hc0_1 hc0_2 hc0_3
 go_enter Tryz.func27,Tryz.ntmps27
 go_wp2_with (first | ((with_reducible refine gate_dst (N:=1) rfl ?_);refine bx 1 #[.string a0_0,.slice A0_1 l0_1.length c0_1,.slice A0_2 l0_2.length c0_2,.slice A0_3 l0_3.length c0_3] 28 ?_;intro g1 w1 b1 hb;have B1:=am b1;replace HB:=bst hb;clear hb b1;obtain ⟨⟨z0,z1,z2,z3⟩,f0,f1,f2,f3⟩:=cf4 B1.out) | (go_at_call 31;refine (ancepsref05_IsName.calls k a0_0 t _ A.out).mono ?_;rintro e w2 ⟨rfl,⟨nd,rfl⟩⟩))
 ·obtain rfl:=sj (nT H (by assumption))
  go_ret
  exact ⟨rr,bel⟩
 ·obtain rfl:=sj (iT (nF H (by assumption)) (by omega))
  go_ret
  exact ⟨rr,bel⟩
 ·replace H:=iF (nF H (by assumption)) (by omega)
  have q:(!t) = false:=by assumption
  obtain rfl:t = true:=by simpa using q
  simp only [Bool.not_true]
  go_loopg [3] k (fun kq v3 w' => ∃ (x:Int),v3 = .int .i64 x ∧ Aside0 (ancepsref53_Valid.l0 kq x a0_0 l0_1 l0_2 l0_3 = some r) ∧ Aside0 (w'.heap[g1]? = some (.cells #[.string a0_0,.slice A0_1 l0_1.length c0_1,.slice A0_2 l0_2.length c0_2,.slice A0_3 l0_3.length c0_3] 28 (0,0))) ∧ Aside0 (Below w.heap.size w w'))
  case atStart => exact ⟨0,rs,H,⟨skb⟩,⟨bel⟩⟩
  case round =>
   clear H z0 z1 z2 z3 f0 f1 f2 f3 q
   obtain ⟨x,rfl,H,B1,HB⟩:=hrel
   cases gk with
   | zero => exact absurd H.out (by simp [ancepsref53_Valid.l0])
   | succ k1 =>
    simp only [ancepsref53_Valid.l0] at H
    obtain ⟨⟨z0,z1,z2,z3⟩,f0,f1,f2,f3⟩:=cf4 B1.out
    by_cases c:x < (l0_1.length:Int)
    ·obtain ⟨p,H⟩:=jn (iT H c)
     obtain ⟨t,A2,H⟩:=bE H
     have cd:=decide_eq_true c
     obtain ⟨ad,e0,hx0,hx1⟩:=at_T72 R0_1.out x p c
     cases e0
     have rx0:=am hx0
     have rx1:=am hx1
     replace hx0:=(HB.out.cell (World.block_lt_of_cell? w _ hx0)).trans hx0
     replace hx1:=(HB.out.cell (World.block_lt_of_cell? w _ hx1)).trans hx1
     replace p:=eq_true p
     replace c:=eq_true c
     go_wp2_with (first | (go_at_call 55;refine (ancepsref01_Valid.calls k1 _ t _ A2.out).mono ?_;rintro e w3 ⟨rfl,⟨nd,rfl⟩⟩) | (go_at_call 31;obtain ⟨t2,A3,H⟩:=bE (bF H (by assumption));refine (ancepsref05_IsName.calls k1 _ t2 _ A3.out).mono ?_;rintro e w' ⟨rfl,⟨nd,rfl⟩⟩))
     ·obtain rfl:=sj (bT H (by assumption))
      go_ret
      exact ⟨rr,bel⟩
     ·obtain rfl:=sj (nT H (by assumption))
      go_ret
      exact ⟨rr,bel⟩
     ·go_roundg k1
      case measure => omega
      case rel => exact ⟨_,rs,nF H (by assumption),⟨skb⟩,⟨bel⟩⟩
    ·obtain ⟨t,A2,H⟩:=bE (iF H c)
     obtain rfl:=sj H
     have cd:=decide_eq_false c
     go_wp2_with (first | (go_at_call 56;refine (ancepsref50_Valid.calls k1 _ _ l0_2 _ _ l0_3 t _ rdc aso rdc aso A2.out).mono ?_;rintro e w3 ⟨rfl,hb⟩;replace HB:=bst hb;clear hb))
     go_ret
     exact ⟨rr,bel⟩
def ancepslaw53_own.f (a0_0:ByteArray) (l0_1:List (S72)) (l0_2:List ByteArray) (l0_3:List Int):Option (ByteArray × (List (S72)) × List ByteArray × List Int):=(api_Verse_23.f l0_1).bind fun t367 => ((slices_Clone_string_string.f l0_2).bind fun t370 => ((slices_Clone_int_int.f l0_3).bind fun t373 => (some (a0_0,t367,t370,t373))))
def ancepslaw53_own.T2:Bool × List (List Nat × List Nat):=(true,[([],[]),([0],[0]),([1],[1]),([2],[2]),([],[]),([4],[4]),([5],[5]),([6,3],[6]),([3,7],[3,7]),([0,1,2,3,4,5,6,7,8],[]),([9,8,7,0,1,2,3,4,5,6,7,8],[8,9])])
def ancepslaw53_own.B2:List Nat:=[0,1,3,7,0,16,48,127,255,511,1023]
theorem ancepslaw53_own.tab2:rtab .any (opsOf Tryz.f7 2) = ancepslaw53_own.T2:=by kernel_rfl
theorem ancepslaw53_own.bits2:waitsOk ancepslaw53_own.T2.2 ancepslaw53_own.B2 = true:=by kernel_rfl
theorem ancepslaw53_own.calls (a0_0:ByteArray) (A0_1:Option Addr) (c0_1:Nat) (l0_1:List (S72)) (A0_2:Option Addr) (c0_2:Nat) (l0_2:List ByteArray) (A0_3:Option Addr) (c0_3:Nat) (l0_3:List Int) (r1:ByteArray) (r2:List (S72)) (r3:List ByteArray) (r4:List Int) (w:World) (hr0_1:Kd.C k72 w A0_1 l0_1.length l0_1) (hc0_1:l0_1.length ≤ c0_1) (hr0_2:Kd.C Kd.string w A0_2 l0_2.length l0_2) (hc0_2:l0_2.length ≤ c0_2) (hr0_3:Kd.C (Kd.int .i64) w A0_3 l0_3.length l0_3) (hc0_3:l0_3.length ≤ c0_3) (h:ancepslaw53_own.f a0_0 l0_1 l0_2 l0_3 = some (r1,r2,r3,r4)) :
  Calls Tryz.prog 7 #[.agg #[.string a0_0,.slice A0_1 l0_1.length c0_1,.slice A0_2 l0_2.length c0_2,.slice A0_3 l0_3.length c0_3]] w fun e w' => ∃ v1_ v2_ v3_:Value,e = .returned (.agg #[.string r1,v1_,v2_,v3_]) ∧ Kd.R k72 72 w' w.heap.size (fun _ => True) v1_ r2 ∧ Kd.R Kd.string 9 w' w.heap.size (fun _ => True) v2_ r3 ∧ Kd.R (Kd.int .i64) 3 w' w.heap.size (fun _ => True) v3_ r4 ∧ Below w.heap.size w w':=by
 have hu28:=Tryz.underlying28
 have hu26:=Tryz.underlying26
 have HB:=am (Below.refl w.heap.size w)
 obtain ⟨t1,A1,H⟩:=bE (am h)
 obtain ⟨t2,A2,H⟩:=bE H
 obtain ⟨t3,A3,H⟩:=bE H
 obtain ⟨rfl,rfl,rfl,rfl⟩:=sj4 H
 clear h H
 have R0_1:=am hr0_1
 have R0_2:=am hr0_2
 have R0_3:=am hr0_3
 have C0_1:=am hc0_1
 have C0_2:=am hc0_2
 have C0_3:=am hc0_3
 clear hr0_1 hr0_2 hr0_3 hc0_1 hc0_2 hc0_3
 go_enter Tryz.func7,Tryz.ntmps7
 go_wp2_with (first | ((with_reducible refine gate_dst (N:=1) rfl ?_);refine bxe 1 #[.string a0_0,.slice A0_1 l0_1.length c0_1,.slice A0_2 l0_2.length c0_2,.slice A0_3 l0_3.length c0_3] 28 ?_;intro g1 eg w1 b1 hb;have G1:=szl eg;have B1:=am b1;replace HB:=bst hb;clear hb b1 eg) | ((with_reducible refine gate_dst (N:=2) rfl ?_);refine bxe 2 #[.string ⟨#[]⟩,.slice none 0 0,.slice none 0 0,.slice none 0 0] 28 ?_;intro g2 eg w2 b2 hb;have N12:=nel g1 eg;have N21:=ner g1 eg;have G2:=szl eg;replace B1:=bbl g1 hb;have B2:=am b2;replace HB:=bst hb;clear hb b2 eg;have n1:=N12.out;have n2:=N21.out;obtain ⟨⟨z0,z1,z2,z3⟩,f0,f1,f2,f3⟩:=cf4 B1.out) | (go_at_call 24;refine (api_Verse_23.calls _ _ l0_1 t1 _ rdc aso A1.out).mono ?_;rintro e w3 ⟨v1,rfl,ho,hb⟩;have O1:=rlo ho;replace B1:=bbl g1 hb;replace B2:=bbl g2 hb;replace HB:=bst hb;obtain ⟨a1,k1,rfl⟩:=Kd.R_slice O1.out;clear hb ho z0 z1 z2 z3 f0 f1 f2 f3;obtain ⟨⟨z0,z1,z2,z3⟩,f0,f1,f2,f3⟩:=cf4 B1.out))
 clear z0 z1 z2 z3 f0 f1 f2 f3
 refine stt 11 (fun w' => w'.cell? ⟨g1,2,none⟩ = some (.slice A0_2 l0_2.length c0_2) ∧ w'.cell? ⟨g1,3,none⟩ = some (.slice A0_3 l0_3.length c0_3)) [10] _ _ ancepslaw53_own.tab2 ancepslaw53_own.bits2 ⟨hc 2,hc 3⟩ fun w0 hb hS HT HW => ?_
 replace O1:=rbl O1 hb
 replace B1:=bbl g1 hb
 replace B2:=bbl g2 hb
 replace HB:=bst hb
 clear hb
 refine pu 0 ?_
 refine pu 1 ?_
 refine pu 4 ?_
 refine pu 5 ?_
 refine tk 2 ?_
 refine tk 6 ?_
 refine cal 3 Tryz.func25 #[.slice A0_2 l0_2.length c0_2] ?_
 refine (slices_Clone_string_string.calls _ _ l0_2 t2 _ rdb aso A2.out).mono ?_
 rintro e w4 ⟨v2,rfl,ho,hb⟩
 have O2:=rlo ho
 replace O1:=rbl O1 hb
 replace B1:=bbl g1 hb
 replace B2:=bbl g2 hb
 replace HB:=bst hb
 obtain ⟨a2,k2,rfl⟩:=Kd.R_slice O2.out
 clear hb ho hS
 refine ⟨_,rfl,⟨hc 2,hc 3⟩,fun hS => nrm ?_⟩
 refine cal 7 Tryz.func26 #[.slice A0_3 l0_3.length c0_3] ?_
 refine (slices_Clone_int_int.calls _ _ l0_3 t3 _ rdb aso A3.out).mono ?_
 rintro e w5 ⟨v3,rfl,ho,hb⟩
 have O3:=rlo ho
 replace O1:=rbl O1 hb
 replace O2:=rbl O2 hb
 replace B1:=bbl g1 hb
 replace B2:=bbl g2 hb
 replace HB:=bst hb
 obtain ⟨a3,k3,rfl⟩:=Kd.R_slice O3.out
 clear hb ho hS
 refine ⟨_,rfl,⟨hc 2,hc 3⟩,fun hS => nrm ?_⟩
 clear hS
 obtain ⟨⟨z0,z1,z2,z3⟩,f0,f1,f2,f3⟩:=cf4 B1.out
 obtain ⟨⟨y0,y1,y2,y3⟩,e0,e1,e2,e3⟩:=cf4 B2.out
 refine pu 8 ?_
 refine pu 9 ?_
 refine lst 10 ?_
 go_wp2
 refine bodyPost_ret (results_cell_row rfl _ _ g2 28 #[.string a0_0,.slice a1 t1.length k1,.slice a2 t2.length k2,.slice a3 t3.length k3] (0,0) _ rfl (set4 sb) Tryz.underlying28 rfl (by kernel_rfl)) rfl ?_
 exact ⟨_,_,_,rr,rx,rx,rx,bel⟩
end Go.Proofs.YtnbcnoabbdegpaaGreatDoor.V
