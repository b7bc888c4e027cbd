/- A part of the proof of the tied card of ProfileRate (chapter 53): the law returns true whatever the input. -/
import Derived.Test.YtnbcnoabbdegpaaGreatDoorZD1
import Derived.Test.YtnbcnoabbdegpaaGreatDoorZN
set_option linter.unusedVariables false
set_option linter.unusedSimpArgs false
namespace Go.Proofs.YtnbcnoabbdegpaaGreatDoor.V
open Go.RowKit Go.Proofs.YtnbcnoabbdegpaaGreatDoorW.PrintWords Go.Proofs.YtnbcnoabbdegpaaGreatDoorW.PrintLast Go.Proofs.YtnbcnoabbdegpaaGreatDoorW.PrintMore
attribute [local go_sem] max2_int min2_int max_two min_two
set_option linter.unusedVariables false
set_option linter.unusedSimpArgs false
set_option maxHeartbeats 8000000
set_option maxRecDepth 100000
abbrev AI (W w:World) (u v:Value) (xs:List Int):Prop:=Kd.R (Kd.int .i64) 3 W w.heap.size (fun k => True ∧ some k ≠ v.ownBlock) u xs
section
variable {ops:Array Oper} {rest:List Oper} {o:Oper} {a:Act} {Q:Exit → Act → World → Prop} {W w:World} {v:Value}
theorem ltI {N:Tmp} (p:Int) (h:∀ v1 w1,RI w1 W v1 [p] → Below W.heap.size W w1 → wpList Tryz.prog ops Q rest (a.put (some N) v1) w1) (hd:o.dst = some N:=by rfl) (hgd:o.guard = none:=by rfl)
  (hrun:(execOp a.eval o).run Tryz.prog W = .ok (.value (.slice (some ⟨W.heap.size,0,none⟩) [p].length [p].length)) (W.alloc (.cells [Value.int .i64 p].toArray 3)):=by first | (go_simp;done) | (go_simp;rfl)):wpList Tryz.prog ops Q (o :: rest) a W:=by
 refine Kd.R_lit (Kd.int .i64) (w0:=W) W.heap.size 3 hgd hd (xs:=[p]) (inner:=[.int .i64 p]) (ok:=fun _ => True) (okp:=fun _ => True) hrun (Reps.one (show Kd.M (Kd.int .i64) _ _ _ p [.int .i64 p] from rfl) (Reps.none _ _)) (fun _ hk => hk) trivial (Below.refl _ _) (Nat.le_refl _) (by simp) fun v1 w1 h1 h2 _ _ => ?_
 rw [hd]
 exact h v1 w1 h1 h2
theorem arI {xs ys:List Int} {A:Option Addr} {c:Nat} {W0:World} (s x:Tmp) (O:Aside0 (RI W0 w v xs)) (L:xs.length + ys.length < 17592186044416)
  (hC:CI W A ys)
  (h:∀ v1 w1,Aside0 (RI w1 w v1 (xs ++ ys)) → Aside0 (Below w.heap.size w w1) → wpList Tryz.prog ops Q rest (a.put o.dst v1) w1)
  (hgd:o.guard = none:=by rfl) (ho:o.op = .call { callee:=.builtin .append,args:=#[.tmp s,.tmp x],argTypes:=#[24,24] }:=by rfl) (hs:a.eval (.tmp s) = v:=by rfl) (hx:a.eval (.tmp x) = .slice A ys.length c:=by first | rfl | (go_simp;done) | (go_simp;rfl))
  (HO:RI W w v xs:=by exact rx) (HB:Below w.heap.size w W:=by exact bel):wpList Tryz.prog ops Q (o :: rest) a W:=
 Kd.R_append_rows (Kd.int .i64) w.heap.size hgd (.tmp s) (.tmp x) 24 3 (.int .i64 0) 8 ho Tryz.underlying24 info3 rfl (by decide) (by omega) v xs ys A ys.length c (fun _ => True) (fun _ => False) hs hx HO hC (fun _ _ h => h) (fun _ hk => hk.elim) (fun _ _ => trivial) HB (below_size HB) (by omega)
  fun v1 w1 h1 h2 _ _ => h v1 w1 ⟨h1⟩ ⟨h2⟩
theorem apA {xs:List Int} {p:Int} (s x:Tmp) {W0:World} (O:Aside0 (RI W0 w v xs)) (L:xs.length < 17592186044416)
  (h:∀ v1 w1,Aside0 (RI w1 w v1 (xs ++ [p])) → Aside0 (Below w.heap.size w w1) → W.grownBy w1 v.ownBlock → (v1.ownBlock = v.ownBlock ∨ ∃ b,v1.ownBlock = some b ∧ W.heap.size ≤ b) → wpList Tryz.prog ops Q rest (a.put o.dst v1) w1)
  (hgd:o.guard = none:=by rfl) (ho:o.op = .call { callee:=.builtin .append,args:=#[.tmp s,.tmp x],argTypes:=#[24,24] }:=by rfl) (hs:a.eval (.tmp s) = v:=by rfl) (hx:a.eval (.tmp x) = .slice (some ⟨W.heap.size,0,none⟩) 1 1:=by first | rfl | (go_simp;done) | (go_simp;rfl))
  (HO:RI W w v xs:=by exact rx) (HB:Below w.heap.size w W:=by exact bel):wpList Tryz.prog ops Q (o :: rest) a (W.alloc (.cells [.int .i64 p].toArray 3)):=
 Kd.R_append (Kd.int .i64) w.heap.size hgd (.tmp s) (.tmp x) 24 3 (.int .i64 0) 8 ho Tryz.underlying24 info3 rfl (by decide) (by omega) v xs p [.int .i64 p] (fun _ => True) (fun _ => False) hs hx rfl (fun _ hk => hk.elim) (fun _ _ => trivial) HO HB (below_size HB) (by omega)
  fun v1 w1 h1 h2 h3 h4 => h v1 w1 ⟨h1⟩ ⟨h2⟩ h3 h4
end
section
variable {W w w1 wr:World} {u v v1:Value} {xs ys:List Int}
theorem apart_young (h:RI W wr u xs) (h6:RI wr w v ys) (hw:w.heap.size ≤ wr.heap.size):AI W w u v xs:=
 Kd.R_lower (Kd.R_mono (Kd.R_bound h) (fun k hk => ⟨trivial,fun e => by have h1:=Kd.R_lt h6 k e.symm;have h2:=hk.2.1;omega⟩)) hw
theorem apart_after (h:AI W w u v xs) (hg:W.grownBy w1 v.ownBlock) (hat:v1.ownBlock = v.ownBlock ∨ ∃ b,v1.ownBlock = some b ∧ W.heap.size ≤ b):AI w1 w u v1 xs:=Kd.R_after h hg hat
theorem apart_R (h:AI W w u v xs):RI W w u xs:=Kd.R_mono h (fun _ _ => trivial)
theorem apart_grown (h:AI W w u v xs) (hg:W.grownBy w1 v.ownBlock):RI w1 w u xs:=Kd.R_mono (Kd.R_grown h hg (fun _ hk => hk.2)) (fun _ _ => trivial)
end
def T339_3:Bool × List (List Nat × List Nat):=(true,[([],[]),([],[]),([],[]),([],[]),([],[]),([],[]),([4,5],[4,5]),([6],[6]),([],[]),([],[]),([8,9],[8,9]),([10],[10]),([0,1,0,1,4,5,6,7,11],[0,1]),([12,7,0,1,4,5,6,7,11],[7,12]),([2,3,0,1,2,3,4,5,6,7,8,9,10,11,12,13],[2,3]),([14,11,13,0,1,2,3,4,5,6,7,8,9,10,11,12,13],[11,14])])
def B339_3:List Nat:=[0,0,0,0,0,0,48,112,0,0,768,1792,4083,8179,16383,32767]
theorem t339_3:rtab .any (opsOf Tryz.f285 3) = T339_3:=by kernel_rfl
theorem w339_3:waitsOk T339_3.2 B339_3 = true:=by kernel_rfl
def KB (W w':World) (r:Option Nat):Prop:=W.heap.size ≤ w'.heap.size ∧ ∀ k,k < W.heap.size → some k ≠ r → w'.heap[k]? = W.heap[k]?
theorem KB.rfl' (W:World) (r:Option Nat):KB W W r:=⟨Nat.le_refl _,fun _ _ _ => rfl⟩
theorem KB.below {W W1 W2:World} {r:Option Nat} (h:KB W W1 r) (hb:Below W1.heap.size W1 W2):KB W W2 r:=⟨Nat.le_trans h.1 (below_size hb),fun k hk hn => (hb.block k (Nat.lt_of_lt_of_le hk h.1)).trans (h.2 k hk hn)⟩
theorem KB.grown {W W1 W2:World} {r:Option Nat} (h:KB W W1 r) (hg:W1.grownBy W2 r):KB W W2 r:=⟨Nat.le_trans h.1 hg.size,fun k hk hn => (hg.block k (Nat.lt_of_lt_of_le hk h.1) hn).trans (h.2 k hk hn)⟩
theorem apart_KB {W w w1:World} {u v:Value} {xs:List Int} (h:AI W w u v xs) (hk:KB W w1 v.ownBlock):RI w1 w u xs:=
 Kd.R_mono (Kd.R_move (Kd.R_bound h) (fun k hq => hk.2 k hq.2.2.1 hq.1.2)) (fun _ _ => trivial)
theorem slices_Reverse_int.calls (P:Option Addr) (c:Nat) (l:List Int) (w W:World) (hr:RI W w (.slice P l.length c) l) (hb:Below w.heap.size w W) :
  Calls Tryz.prog 285 #[.slice P l.length c] W fun e w' => e = .returned (.tuple #[]) ∧ RI w' w (.slice P l.length c) l.reverse ∧ Below w.heap.size w w' ∧ KB W w' (Value.slice P l.length c).ownBlock:=by
 have R0:=am hr
 have HB:=am hb
 have hX:=Kd.C_max (Kd.R_reads' hr).2.2
 clear hr hb
 go_enter Tryz.func285,Tryz.ntmps285
 go_wp2
 go_loopg [2,3] l.length (fun k v2 v3 w' => ∃ (i:Nat) (out:List Int),v2 = .int .i64 (i:Int) ∧ v3 = .int .i64 ((l.length:Int) - 1 - i) ∧ i ≤ l.length ∧ l.length - i ≤ k ∧ Aside0 (RI w' w (.slice P l.length c) out) ∧ Aside0 (Below w.heap.size w w') ∧ Aside0 (KB W w' (Value.slice P l.length c).ownBlock) ∧ Aside0 (ND.RV l i out))
 case atStart => exact ⟨0,l,rfl,by go_num,Nat.zero_le _,by omega,R0,HB,⟨KB.rfl' _ _⟩,⟨ND.RV0 _⟩⟩
 case round =>
  obtain ⟨i,out,rfl,e3,h1,h2,R2,HB2,HG,V⟩:=hrel
  replace HB:=HB2
  clear HB2
  have hL:=V.out.1
  by_cases hi:2 * i + 1 < l.length
  ·obtain ⟨j,hj⟩:∃ j,i + j + 1 = l.length:=⟨l.length - 1 - i,by omega⟩
   have e4:(l.length:Int) - 1 - i = (j:Int):=by omega
   rw [e4] at e3
   subst e3
   obtain ⟨g,e⟩:=rhd R2.out (by omega)
   subst e
   have hz:=rcl R2.out (i:=i) (by omega)
   have hy:=rcl R2.out (i:=j) (by omega)
   have V2:=am (ND.RVs V.out hj (by omega))
   rw [ND.RV_get V.out (by omega) (by omega)] at hz hy
   generalize l.getD i 0 = x at hz V2
   generalize l.getD j 0 = y at hy V2
   have hij:i < j:=by omega
   have hil:i < l.length:=by omega
   have hjl:j < l.length:=by omega
   go_wp2
   refine stt 16 (fun w' => w'.cell? ⟨g,i,none⟩ = some (.int .i64 x) ∧ w'.cell? ⟨g,j,none⟩ = some (.int .i64 y)) [13,15] _ _ t339_3 w339_3 ⟨hz,hy⟩ fun w0 hb hS HT HW => ?_
   replace R2:=rbl R2 hb
   replace HB:=bst hb
   replace HG:=am (HG.out.below hb)
   refine pu 0 ?_
   refine pu 1 ?_
   refine pu 2 ?_
   refine pu 3 ?_
   refine pu 4 ?_
   refine pu 5 ?_
   refine pu 6 ?_
   refine tk 7 ?_
   refine pu 8 ?_
   refine pu 9 ?_
   refine pu 10 ?_
   refine tk 11 ?_
   refine pu 12 ?_
   refine lsI0 13 26 _ i y R2 hil (fun w3 R3 HB3 G3 => ?_)
   replace HB:=HB3
   clear HB3
   refine pu 14 ?_
   refine lsI 15 27 _ j x R3 hjl (fun w4 R4 HB4 G4 => ?_)
   replace HB:=HB4
   replace HG:=am ((HG.out.grown G3).grown G4)
   clear HB4 hS HT HW hb hz hy G3 G4
   go_wp2
   go_roundg (l.length - (i + 1))
   case measure => omega
   case rel => exact ⟨i + 1,_,by go_num,by go_num,by omega,by omega,R4,HB,HG,V2⟩
  ·have V2:=ND.RVend V.out (by omega)
   subst V2
   have hc2:¬ (i:Int) < (l.length:Int) - 1 - i:=by omega
   go_wp2
   refine bodyPost_end (results_none rfl _ _ _) rfl ?_
   exact ⟨rfl,R2.out,bel,HG.out⟩
def RetII (w w':World) (e:Ending) (q r:List Int):Prop:=∃ A c A' c',e = .returned (.tuple #[.slice A q.length c,.slice A' r.length c']) ∧ RI w' w (.slice A q.length c) q ∧ RI w' w (.slice A' r.length c') r ∧ Below w.heap.size w w'
theorem cmpN_le {x y:Nat}:cmpN x y ≤ 0 ↔ x ≤ y:=by
 unfold cmpN
 by_cases h:x < y
 ·rw [if_pos h];omega
 ·by_cases h2:x = y
  ·rw [if_neg h,if_pos h2];omega
  ·rw [if_neg h,if_neg h2];omega
theorem natural_divide.calls (A B:Option Addr) (c d:Nat) (a b:List Int) (w:World) (ha:CI w A a) (hac:a.length ≤ c) (hb:CI w B b) (hbd:b.length ≤ d) (oa:ND.ok a) (ob:ND.ok b) (hv:0 < ND.val b) (hl:a.length ≤ 1000) (hl2:b.length ≤ 1000) :
  Calls Tryz.prog 194 #[.slice A a.length c,.slice B b.length d] w fun e w' => RetII w w' e (ND.digs (ND.val a / ND.val b)) (ND.digs (ND.val a % ND.val b)):=by
 have HA:=am ha
 have HC:=am hb
 have HAC:=am hac
 have HBD:=am hbd
 have OA:=am oa
 have OB:=am ob
 have HV:=am hv
 have HB:=am (Below.refl w.heap.size w)
 clear ha hb oa ob hac hbd hv
 go_enter Tryz.func194,Tryz.ntmps194
 go_wp2
 go_loopg [6,7,8] a.length (fun k v6 v7 v8 w' => ∃ (j:Nat) (ql:List Int) (R:Nat),v8 = .int .i64 ((j:Int) - 1) ∧ j ≤ a.length ∧ j ≤ k ∧ Aside0 (RI w' w v6 ql) ∧ Aside0 (AI w' w v7 v6 (ND.digs R)) ∧ Aside0 (Below w.heap.size w w') ∧ Aside0 (ND.QI a (ND.val b) j ql R))
 case atStart => exact ⟨a.length,[],0,by go_num,Nat.le_refl _,Nat.le_refl _,⟨Kd.R_nil _ _ _ _ _⟩,⟨by rw [ND.digs0];exact Kd.R_nil _ _ _ _ _⟩,HB,⟨ND.QI0 HV.out⟩⟩
 case round =>
  obtain ⟨j,ql,R,e8,h1,h2,R6,R7,HB2,S⟩:=hrel
  replace HB:=HB2
  clear HB2
  cases j with
  | zero =>
   have e0:((0:Nat):Int) - 1 = -1:=rfl
   rw [e0] at e8
   subst e8
   obtain ⟨okq,vq,er⟩:=ND.QIend S.out
   obtain ⟨P6,c6,e6⟩:=Kd.R_slice R6.out
   subst e6
   obtain ⟨P7,c7,e7⟩:=Kd.R_slice R7.out
   subst e7
   have HT:=am (fun (W:World) (h:CI W P6 ql.reverse) => natural_trimmed.calls P6 c6 ql.reverse W h (by rw [List.length_reverse];exact rL R6))
   rw [ND.tl_len okq,vq,List.length_reverse] at HT
   have OKQ:=am okq
   have VQ:=am vq
   clear okq vq S
   go_wp2_with (first
    | (go_at_call 285;refine (slices_Reverse_int.calls P6 c6 ql w wr R6.out HB.out).mono ?_;rintro e w5 ⟨rfl,RV,HB5,KK⟩;have R7n:=am (apart_KB R7.out KK);replace HB:=am HB5;replace RV:=am RV;clear R6 R7 HB5 KK)
    | (go_at_call 281;refine (HT.out w5 (rC RV)).mono ?_;rintro e w6 ⟨rfl,⟨nd,rfl⟩⟩))
   go_ret2
   have RT:=rtk RV.out OKQ.out
   rw [ND.tl_len OKQ.out,VQ.out] at RT
   subst er
   exact ⟨_,_,_,_,rfl,Kd.R_drewN RT _,Kd.R_drewN R7n.out _,bel⟩
  | succ j =>
   have e4:((j + 1:Nat):Int) - 1 = (j:Int):=by omega
   rw [e4] at e8
   subst e8
   have hja:j < a.length:=by omega
   obtain ⟨ad,e1,hx0⟩:=cat (rdb:CI _ A a) hja
   cases e1
   have hxa:=ND.ok_getD OA.out j
   have S2:=am (ND.QIs OA.out S.out hja)
   have hR:=S.out.2.2.2
   have hN:=am (ND.next_len (d:=(a.getD j 0).toNat) OB.out hR (by omega))
   have hRl:=ND.rest_len OB.out hR
   have okx:=am (ND.head_ok hxa R)
   have vx:=am (ND.head_val (a.getD j 0) R)
   have hNv:=am (ND.low_lt (d:=(a.getD j 0).toNat) (by omega) hR)
   obtain ⟨x,ex⟩:∃ x,a.getD j 0 = x:=⟨_,rfl⟩
   rw [ex] at hx0 hxa S2 hN okx vx hNv
   clear ex
   obtain ⟨N,eN⟩:∃ N,x.toNat + 10000 * R = N:=⟨_,rfl⟩
   rw [eN] at S2 hN vx hNv
   clear eN
   obtain ⟨ld,eld⟩:∃ ld,[x] ++ ND.digs R = ld:=⟨_,rfl⟩
   have okl:=am (show ND.ok ld by rw [← eld];exact okx.out)
   have vl:=am (show ND.val ld = N by rw [← eld];exact vx.out)
   have HE:=am eld
   have hL2:=am (show [x].length + (ND.digs R).length < 17592186044416 by simp;omega)
   clear eld okx vx
   obtain ⟨PR,cR,e7⟩:=Kd.R_slice R7.out
   subst e7
   have HBr:=am (Below.refl wr.heap.size wr)
   have HCR:=am (Kd.R_reads' (apart_R R7.out)).2.2
   go_wp2_with (first
    | ((with_reducible refine gate_dst (N:=23) rfl ?_);refine ltI x ?_;intro u1 w1 RL BL;replace RL:=am RL;replace HBr:=am BL)
    | ((with_reducible refine gate_builtin (b:=.append) (xs:=#[.tmp 23,.tmp 24]) rfl ?_);at_builtin;refine arI 23 24 RL hL2.out (Kd.C_below HCR.out HBr.out) ?_;intro u2 w2 RA BA;rw [HE.out] at RA;replace HBr:=BA;obtain ⟨P2,c2,e⟩:=Kd.R_slice RA.out;subst e;have hcall:=natural_trimmed.calls P2 c2 ld w2 (rC RA) (rL RA);rw [ND.tl_len okl.out,vl.out] at hcall;replace hcall:=am hcall;have RN:=rtk RA.out okl.out;rw [ND.tl_len okl.out,vl.out] at RN;replace RN:=am RN)
    | (go_at_call 281;refine hcall.out.mono ?_;rintro e w3 ⟨rfl,⟨nd,rfl⟩⟩;replace RN:=am (Kd.R_drewN RN.out nd);replace HBr:=am (bel:Below wr.heap.size wr (w2.drewN nd));generalize w2.drewN nd = w4 at RN HBr ⊢;clear hcall RA BA))
   go_loopg [9,10] 10000 (fun k v9 v10 w' => ∃ lo hi:Nat,v9 = .int .i64 (lo:Int) ∧ v10 = .int .i64 (hi:Int) ∧ hi - lo ≤ k ∧ Aside0 (RI w' wr (.slice P2 (ND.digs N).length c2) (ND.digs N)) ∧ Aside0 (Below wr.heap.size wr w') ∧ Aside0 (ND.BS N (ND.val b) lo hi))
   case atStart => exact ⟨0,9999,rfl,rfl,by omega,RN,HBr,⟨ND.BS0 HV.out hNv.out⟩⟩
   case round =>
    clear RN HBr
    obtain ⟨lo,hi,rfl,rfl,h3,RN,HBr,Z⟩:=hrel
    have hz:=Z.out.2.2
    by_cases hlh:lo < hi
    ·obtain ⟨m,em⟩:∃ m,(lo + hi + 1) / 2 = m:=⟨_,rfl⟩
     have hm1:lo < m:=by omega
     have hm2:m ≤ hi:=by omega
     have hm3:((lo:Int) + hi + 1).tdiv 2 = (m:Int):=by rw [Int.tdiv_eq_ediv_of_nonneg (by omega)];omega
     have ZT:=am (fun hc => ND.BSt Z.out hlh hc)
     have ZF:=am (fun hc => ND.BSf Z.out hlh hc)
     rw [em] at ZT ZF
     clear Z em
     have hCB:=am (rdb:CI _ B b)
     have HM:=am (fun (P3:Option Addr) (c3:Nat) (W:World) (hb:CI W B b) (h3:CI W P3 [(m:Int)]) (hc:1 ≤ c3) => natural_mul.calls B P3 d c3 b [(m:Int)] W hb HBD.out h3 hc OB.out (ND.ok1 (by omega)) (by simp;omega))
     rw [ND.val1] at HM
     have HBc:=bst HBr.out (h:=HB.out)
     generalize hvb:ND.val b * m = vm at HM ZT ZF
     clear hvb
     go_wp2_with (first
      | ((with_reducible refine gate_dst (N:=37) rfl ?_);refine ltI (m:Int) ?_;intro u3 w5 RM BM;replace RN:=rbl RN BM;replace HBr:=bst BM (h:=HBr.out);replace HBc:=bst BM (h:=HBc.out);obtain ⟨P3,c3,e⟩:=Kd.R_slice RM;subst e;clear BM;replace RM:=am RM)
      | (go_at_call 283;refine (HM.out P3 c3 _ (Kd.C_below HC.out HBc.out) (rC RM) (rL RM)).mono ?_;rintro e w6 ⟨A4,c4,rfl,RX,BX⟩;replace RN:=rbl RN BX;replace HBr:=bst BX (h:=HBr.out);replace HBc:=bst BX (h:=HBc.out);clear BX;replace RX:=am RX;clear RM HM hCB)
      | (go_at_call 282;refine (natural_compare.calls A4 P2 c4 c2 vm N w6 (rC RX) (rC RN)).mono ?_;rintro e w7 ⟨rfl,⟨nd,rfl⟩⟩;replace RN:=am (Kd.R_drewN RN.out nd);replace HBr:=bst (pw_below_drewN (Below.refl _ _) nd) (h:=HBr.out);clear RX HBc;generalize w6.drewN nd = w8 at RN HBr ⊢))
     ·have h:=cmpN_le.1 (show cmpN vm N ≤ 0 by assumption)
      go_roundg (hi - m)
      case measure => omega
      case rel => exact ⟨m,hi,rfl,rfl,Nat.le_refl _,RN,HBr,⟨ZT.out h⟩⟩
     ·have h:=mt cmpN_le.2 (show ¬ cmpN vm N ≤ 0 by omega)
      go_roundg (m - 1 - lo)
      case measure => omega
      case rel => exact ⟨lo,m - 1,rfl,by go_num,Nat.le_refl _,RN,HBr,⟨ZF.out (by omega)⟩⟩
    ·have elo:=ND.BSend Z.out hlh
     have hlo:lo ≤ 9999:=by omega
     have hql:=am (show ql.length < 17592186044416 by have:=S.out.2.1;omega)
     have HBc:=bst HBr.out (h:=HB.out)
     rw [← elo] at S2
     by_cases hl0:0 < lo
     ·have HM:=am (fun (P3:Option Addr) (c3:Nat) (W:World) (hb:CI W B b) (h3:CI W P3 [(lo:Int)]) (hc:1 ≤ c3) => natural_mul.calls B P3 d c3 b [(lo:Int)] W hb HBD.out h3 hc OB.out (ND.ok1 hlo) (by simp;omega))
      rw [ND.val1] at HM
      have hrest:N - ND.val b * lo = N % ND.val b:=by rw [elo];exact ND.rest_eq N _
      have hle:ND.val b * lo ≤ N:=by rw [elo];exact Nat.mul_div_le N _
      generalize hvb:ND.val b * lo = vm at HM hrest hle
      clear hvb
      have HS:=am (fun (A4:Option Addr) (c4:Nat) (W:World) (h1:CI W P2 (ND.digs N)) (hc:(ND.digs N).length ≤ c2) (h2:CI W A4 (ND.digs vm)) (hc4:(ND.digs vm).length ≤ c4) => natural_sub.calls P2 A4 c2 c4 (ND.digs N) (ND.digs vm) W h1 hc h2 hc4 (ND.ok_digs _) (ND.ok_digs _) (ND.digs_mono hle) (by rw [ND.val_digs,ND.val_digs];exact hle) (Nat.le_trans hN.out (by omega)))
      rw [ND.val_digs,ND.val_digs,hrest] at HS
      clear hrest hle elo Z
      go_wp2_with (first
       | ((with_reducible refine gate_dst (N:=50) rfl ?_);refine ltI (lo:Int) ?_;intro u3 w5 RM BM;replace RN:=rbl RN BM;replace HBr:=bst BM (h:=HBr.out);replace HBc:=bst BM (h:=HBc.out);obtain ⟨P3,c3,e⟩:=Kd.R_slice RM;subst e;clear BM;replace RM:=am RM)
       | (go_at_call 283;refine (HM.out P3 c3 _ (Kd.C_below HC.out HBc.out) (rC RM) (rL RM)).mono ?_;rintro e w6 ⟨A4,c4,rfl,RX,BX⟩;replace RN:=rbl RN BX;replace HBr:=bst BX (h:=HBr.out);replace HBc:=bst BX (h:=HBc.out);clear BX;replace RX:=am RX;clear RM HM)
       | (go_at_call 284;refine (HS.out A4 c4 w6 (rC RN) (rL RN) (rC RX) (rL RX)).mono ?_;rintro e w7 ⟨A5,c5,rfl,RY,BY⟩;replace RN:=rlo RY (h:=HBr.out);replace HBr:=bst BY (h:=HBr.out);replace HBc:=bst BY (h:=HBc.out);clear BY RX HS)
       | ((with_reducible refine gate_builtin (b:=.append) (xs:=#[.tmp 53,.tmp 55]) rfl ?_);at_builtin;refine apA 53 55 R6 hql.out ?_ (HO:=Kd.R_below R6.out HBr.out) (HB:=HBc.out);intro v1 w9 R6n HB9 hg hat;have AP:=am (apart_after (apart_young RN.out R6.out (below_size HB.out)) hg hat)))
      go_roundg j
      case measure => omega
      case rel => exact ⟨j,_,_,by go_num,by omega,Nat.le_refl _,R6n,AP,HB9,S2⟩
     ·have hl1:lo = 0:=by omega
      subst hl1
      have e0:N % ND.val b = N:=Nat.mod_eq_of_lt ((Nat.div_eq_zero_iff_lt HV.out).1 elo.symm)
      rw [e0] at S2
      clear e0 elo Z
      go_wp2_with (first | ((with_reducible refine gate_builtin (b:=.append) (xs:=#[.tmp 53,.tmp 55]) rfl ?_);at_builtin;refine apA 53 55 R6 hql.out ?_ (HO:=Kd.R_below R6.out HBr.out) (HB:=HBc.out);intro v1 w9 R6n HB9 hg hat;have AP:=am (apart_after (apart_young RN.out R6.out (below_size HB.out)) hg hat)))
      go_roundg j
      case measure => omega
      case rel => exact ⟨j,_,_,by go_num,by omega,Nat.le_refl _,R6n,AP,HB9,S2⟩
theorem ref02_divide.calls (A B:Option Addr) (c d:Nat) (a b:List Int) (w:World) (ha:CI w A a) (hac:a.length ≤ c) (hb:CI w B b) (hbd:b.length ≤ d) (oa:ND.ok a) (ob:ND.ok b) (hv:0 < ND.val b) (hl:a.length ≤ 1000) (hl2:b.length ≤ 1000) :
  Calls Tryz.prog 185 #[.slice A a.length c,.slice B b.length d] w fun e w' => RetII w w' e (ND.digs (ND.val a / ND.val b)) (ND.digs (ND.val a % ND.val b)):=by
 have HA:=am ha
 have HC:=am hb
 have HAC:=am hac
 have HBD:=am hbd
 have OA:=am oa
 have OB:=am ob
 have HV:=am hv
 have HB:=am (Below.refl w.heap.size w)
 clear ha hb oa ob hac hbd hv
 go_enter Tryz.func185,Tryz.ntmps185
 go_wp2_with (refine gate_ (.makeSlice 24 (.tmp 13) (.tmp 13)) rfl ?_;refine mkI a.length _ _ (by omega) ?_;intro g q w1 R1 HB1 hg;replace HB:=HB1;clear HB1)
 go_loopg [7,8] a.length (fun k v7 v8 w' => ∃ (j:Nat) (ql:List Int) (R:Nat),v8 = .int .i64 ((j:Int) - 1) ∧ j ≤ a.length ∧ j ≤ k ∧ Aside0 (RI w' w (.slice (some ⟨g,0,none⟩) a.length q) ql) ∧ Aside0 (RI w' w v7 (ND.digs R)) ∧ Aside0 (Below w.heap.size w w') ∧ Aside0 (ND.DI a (ND.val b) j ql R))
 case atStart => exact ⟨a.length,_,0,by go_num,Nat.le_refl _,Nat.le_refl _,R1,⟨by rw [ND.digs0];exact Kd.R_nil _ _ _ _ _⟩,HB,⟨ND.DI0 HV.out⟩⟩
 case round =>
  obtain ⟨j,ql,R,e8,h1,h2,R6,R7,HB2,S⟩:=hrel
  replace HB:=HB2
  clear HB2 R1
  cases j with
  | zero =>
   have e0:((0:Nat):Int) - 1 = -1:=rfl
   rw [e0] at e8
   subst e8
   obtain ⟨okq,vq,er⟩:=ND.DIend S.out
   have hq:=S.out.2.1
   obtain ⟨P7,c7,e7⟩:=Kd.R_slice R7.out
   subst e7
   have hcall:=ref02_trim.calls (some ⟨g,0,none⟩) q ql wr (rC R6) (by rw [hq];exact rL R6)
   rw [ND.tl_len okq,vq,hq] at hcall
   replace hcall:=am hcall
   have RT:=rtk R6.out okq
   rw [ND.tl_len okq,vq] at RT
   replace RT:=am RT
   clear okq vq S hq
   go_wp2_with (go_at_call 274;refine hcall.out.mono ?_;rintro e w6 ⟨rfl,⟨nd,rfl⟩⟩)
   go_ret2
   subst er
   exact ⟨_,_,_,_,rfl,Kd.R_drewN RT.out _,Kd.R_drewN R7.out _,bel⟩
  | succ j =>
   have e4:((j + 1:Nat):Int) - 1 = (j:Int):=by omega
   rw [e4] at e8
   subst e8
   have hja:j < a.length:=by omega
   obtain ⟨ad,e1,hx0⟩:=cat (rdb:CI _ A a) hja
   cases e1
   have hxa:=ND.ok_getD OA.out j
   have S2:=am (ND.DIs OA.out S.out hja)
   have hR:=S.out.2.2.2
   have hN:=am (ND.next_len (d:=(a.getD j 0).toNat) OB.out hR (by omega))
   have hRl:=ND.rest_len OB.out hR
   have okx:=am (ND.head_ok hxa R)
   have vx:=am (ND.head_val (a.getD j 0) R)
   have hNv:=am (ND.low_lt (d:=(a.getD j 0).toNat) (by omega) hR)
   obtain ⟨x,ex⟩:∃ x,a.getD j 0 = x:=⟨_,rfl⟩
   rw [ex] at hx0 hxa S2 hN okx vx hNv
   clear ex
   obtain ⟨N,eN⟩:∃ N,x.toNat + 10000 * R = N:=⟨_,rfl⟩
   rw [eN] at S2 hN vx hNv
   clear eN
   obtain ⟨ld,eld⟩:∃ ld,[x] ++ ND.digs R = ld:=⟨_,rfl⟩
   have okl:=am (show ND.ok ld by rw [← eld];exact okx.out)
   have vl:=am (show ND.val ld = N by rw [← eld];exact vx.out)
   have HE:=am eld
   have hL2:=am (show [x].length + (ND.digs R).length < 17592186044416 by simp;omega)
   clear eld okx vx
   obtain ⟨PR,cR,e7⟩:=Kd.R_slice R7.out
   subst e7
   have HBr:=am (Below.refl wr.heap.size wr)
   have HCR:=am (Kd.R_reads' R7.out).2.2
   go_wp2_with (first
    | ((with_reducible refine gate_dst (N:=26) rfl ?_);refine ltI x ?_;intro u1 w1 RL BL;replace RL:=am RL;replace HBr:=am BL)
    | ((with_reducible refine gate_builtin (b:=.append) (xs:=#[.tmp 26,.tmp 27]) rfl ?_);at_builtin;refine arI 26 27 RL hL2.out (Kd.C_below HCR.out HBr.out) ?_;intro u2 w2 RA BA;rw [HE.out] at RA;replace HBr:=BA;obtain ⟨P2,c2,e⟩:=Kd.R_slice RA.out;subst e;have hcall:=ref02_trim.calls P2 c2 ld w2 (rC RA) (rL RA);rw [ND.tl_len okl.out,vl.out] at hcall;replace hcall:=am hcall;have RN:=rtk RA.out okl.out;rw [ND.tl_len okl.out,vl.out] at RN;replace RN:=am RN)
    | (go_at_call 274;refine hcall.out.mono ?_;rintro e w3 ⟨rfl,⟨nd,rfl⟩⟩;replace RN:=am (Kd.R_drewN RN.out nd);replace HBr:=am (bel:Below wr.heap.size wr (w2.drewN nd));generalize w2.drewN nd = w4 at RN HBr ⊢;clear hcall RA BA))
   go_loopg [9,10] 10000 (fun k v9 v10 w' => ∃ lo hi:Nat,v9 = .int .i64 (lo:Int) ∧ v10 = .int .i64 (hi:Int) ∧ hi - lo ≤ k ∧ Aside0 (RI w' wr (.slice P2 (ND.digs N).length c2) (ND.digs N)) ∧ Aside0 (Below wr.heap.size wr w') ∧ Aside0 (ND.BS N (ND.val b) lo hi))
   case atStart => exact ⟨0,9999,rfl,rfl,by omega,RN,HBr,⟨ND.BS0 HV.out hNv.out⟩⟩
   case round =>
    clear RN HBr
    obtain ⟨lo,hi,rfl,rfl,h3,RN,HBr,Z⟩:=hrel
    have hz:=Z.out.2.2
    by_cases hlh:lo < hi
    ·obtain ⟨m,em⟩:∃ m,(lo + hi + 1) / 2 = m:=⟨_,rfl⟩
     have hm1:lo < m:=by omega
     have hm2:m ≤ hi:=by omega
     have hm3:((lo:Int) + hi + 1).tdiv 2 = (m:Int):=by rw [Int.tdiv_eq_ediv_of_nonneg (by omega)];omega
     have ZT:=am (fun hc => ND.BSt Z.out hlh hc)
     have ZF:=am (fun hc => ND.BSf Z.out hlh hc)
     rw [em] at ZT ZF
     clear Z em
     have hCB:=am (rdb:CI _ B b)
     have HM:=am (fun (P3:Option Addr) (c3:Nat) (W:World) (hb:CI W B b) (h3:CI W P3 [(m:Int)]) (hc:1 ≤ c3) => ref02_times.calls B P3 d c3 b [(m:Int)] W hb HBD.out h3 hc OB.out (ND.ok1 (by omega)) (by simp;omega))
     rw [ND.val1] at HM
     have HBc:=bst HBr.out (h:=HB.out)
     generalize hvb:ND.val b * m = vm at HM ZT ZF
     clear hvb
     go_wp2_with (first
      | ((with_reducible refine gate_dst (N:=40) rfl ?_);refine ltI (m:Int) ?_;intro u3 w5 RM BM;replace RN:=rbl RN BM;replace HBr:=bst BM (h:=HBr.out);replace HBc:=bst BM (h:=HBc.out);obtain ⟨P3,c3,e⟩:=Kd.R_slice RM;subst e;clear BM;replace RM:=am RM)
      | (go_at_call 276;refine (HM.out P3 c3 _ (Kd.C_below HC.out HBc.out) (rC RM) (rL RM)).mono ?_;rintro e w6 ⟨A4,c4,rfl,RX,BX⟩;replace RN:=rbl RN BX;replace HBr:=bst BX (h:=HBr.out);replace HBc:=bst BX (h:=HBc.out);clear BX;replace RX:=am RX;clear RM HM hCB)
      | (go_at_call 124;refine (ref02_cmp.calls A4 P2 c4 c2 vm N w6 (rC RX) (rC RN)).mono ?_;rintro e w7 ⟨rfl,⟨nd,rfl⟩⟩;replace RN:=am (Kd.R_drewN RN.out nd);replace HBr:=bst (pw_below_drewN (Below.refl _ _) nd) (h:=HBr.out);clear RX HBc;generalize w6.drewN nd = w8 at RN HBr ⊢))
     ·have h:=cmpN_le.1 (show cmpN vm N ≤ 0 by assumption)
      go_roundg (hi - m)
      case measure => omega
      case rel => exact ⟨m,hi,rfl,rfl,Nat.le_refl _,RN,HBr,⟨ZT.out h⟩⟩
     ·have h:=mt cmpN_le.2 (show ¬ cmpN vm N ≤ 0 by omega)
      go_roundg (m - 1 - lo)
      case measure => omega
      case rel => exact ⟨lo,m - 1,rfl,by go_num,Nat.le_refl _,RN,HBr,⟨ZF.out (by omega)⟩⟩
    ·have elo:=ND.BSend Z.out hlh
     have hlo:lo ≤ 9999:=by omega
     have HBc:=bst HBr.out (h:=HB.out)
     rw [← elo] at S2
     have HM:=am (fun (P3:Option Addr) (c3:Nat) (W:World) (hb:CI W B b) (h3:CI W P3 [(lo:Int)]) (hc:1 ≤ c3) => ref02_times.calls B P3 d c3 b [(lo:Int)] W hb HBD.out h3 hc OB.out (ND.ok1 hlo) (by simp;omega))
     rw [ND.val1] at HM
     have hrest:N - ND.val b * lo = N % ND.val b:=by rw [elo];exact ND.rest_eq N _
     have hle:ND.val b * lo ≤ N:=by rw [elo];exact Nat.mul_div_le N _
     generalize hvb:ND.val b * lo = vm at HM hrest hle
     clear hvb
     have HS:=am (fun (A4:Option Addr) (c4:Nat) (W:World) (h1:CI W P2 (ND.digs N)) (hc:(ND.digs N).length ≤ c2) (h2:CI W A4 (ND.digs vm)) (hc4:(ND.digs vm).length ≤ c4) => ref02_less.calls P2 A4 c2 c4 (ND.digs N) (ND.digs vm) W h1 hc h2 hc4 (ND.ok_digs _) (ND.ok_digs _) (ND.digs_mono hle) (by rw [ND.val_digs,ND.val_digs];exact hle) (Nat.le_trans hN.out (by omega)))
     rw [ND.val_digs,ND.val_digs,hrest] at HS
     clear hrest hle elo Z
     go_wp2_with (first
      | (refine gate_ (.store 3 (.tmp 51) (.tmp 50)) rfl ?_;refine stI 51 _ j (lo:Int) R6 hja ?_ (HO:=Kd.R_below R6.out HBr.out) (HB:=HBc.out);intro w4 RO HB4 hg;have RN2:=am (apart_grown (apart_young RN.out R6.out (below_size HB.out)) (v:=.slice (some ⟨g,0,none⟩) a.length q) (by exact hg));clear RN;replace HBc:=HB4;clear HB4)
      | ((with_reducible refine gate_dst (N:=55) rfl ?_);refine ltI (lo:Int) ?_;intro u3 w5 RM BM;replace RN2:=rbl RN2 BM;replace RO:=rbl RO BM;replace HBc:=bst BM (h:=HBc.out);obtain ⟨P3,c3,e⟩:=Kd.R_slice RM;subst e;clear BM;replace RM:=am RM)
      | (go_at_call 276;refine (HM.out P3 c3 _ (Kd.C_below HC.out HBc.out) (rC RM) (rL RM)).mono ?_;rintro e w6 ⟨A4,c4,rfl,RX,BX⟩;replace RN2:=rbl RN2 BX;replace RO:=rbl RO BX;replace HBc:=bst BX (h:=HBc.out);clear BX;replace RX:=am RX;clear RM HM)
      | (go_at_call 183;refine (HS.out A4 c4 w6 (rC RN2) (rL RN2) (rC RX) (rL RX)).mono ?_;rintro e w7 ⟨A5,c5,rfl,RY,BY⟩;replace RO:=rbl RO BY;replace RN2:=rlo RY (h:=HBc.out);replace HBc:=bst BY (h:=HBc.out);clear BY RX HS))
     go_roundg j
     case measure => omega
     case rel => exact ⟨j,_,_,by go_num,by omega,Nat.le_refl _,RO,RN2,HBc,S2⟩
end Go.Proofs.YtnbcnoabbdegpaaGreatDoor.V
