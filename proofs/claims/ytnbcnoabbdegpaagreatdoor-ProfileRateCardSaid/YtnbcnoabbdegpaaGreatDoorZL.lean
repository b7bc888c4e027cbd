/- A part of the proof of the tied card of ProfileRate (chapter 53): the law returns true whatever the input. -/
import Derived.Test.YtnbcnoabbdegpaaGreatDoorZD8
import Derived.Test.YtnbcnoabbdegpaaGreatDoorZU4
import Derived.Test.YtnbcnoabbdegpaaGreatDoorZK
set_option linter.unusedVariables false
set_option linter.unusedSimpArgs false
namespace Go.Proofs.YtnbcnoabbdegpaaGreatDoor.V
open Go.RowKit Go.Proofs.YtnbcnoabbdegpaaGreatDoorW.PrintWords Go.Proofs.YtnbcnoabbdegpaaGreatDoorW.PrintLast Go.Proofs.YtnbcnoabbdegpaaGreatDoorW.PrintMore
set_option linter.unusedVariables false
set_option linter.unusedSimpArgs false
set_option maxHeartbeats 8000000
set_option maxRecDepth 100000
def nmOf (key:ByteArray):ByteArray:=if P.isName key = true then key else ⟨#[]⟩
def neOf (key:ByteArray):Int:=if P.isName key = true then 0 else 2
theorem info_stB34:(Tryz.prog.info? 34).map (·.size) = some 3:=by kernel_rfl
theorem stB34 {ops:Array Oper} {rest:List Oper} {o:Oper} {a:Act} {Q:Exit → Act → World → Prop} {W w:World} {g:Nat} {o0 o1 o2 n0 n1 n2:Value} (p:Tmp) (x:Operand) (B:Aside0 (W.heap[g]? = some (.cells #[o0,o1,o2] 34 (0,0)))) (G:Aside0 (w.heap.size ≤ g))
  (h:∀ w1,w1.heap[g]? = some (.cells #[n0,n1,n2] 34 (0,0)) → Below w.heap.size w w1 → KB W w1 (some g) → wpList Tryz.prog ops Q rest a w1)
  (hN:o.dst = none:=by rfl) (hgd:o.guard = none:=by rfl) (ho:o.op = .store 34 (.tmp p) x:=by rfl) (haddr:a.eval (.tmp p) = .pointer (some ⟨g,0,none⟩):=by rfl) (hx:a.eval x = .agg #[n0,n1,n2]:=by rfl) (h0:n0.oneCell' = true:=by rfl) (h1:n1.oneCell' = true:=by rfl) (h2:n2.oneCell' = true:=by rfl)
  (HB:Below w.heap.size w W:=by exact bel):wpList Tryz.prog ops Q (o :: rest) a W:=by
 have hcs:(Value.agg #[n0,n1,n2]).cells.toList = [n0,n1,n2]:=by simp [Value.cells]
 have hr:=run_store_run (P:=Tryz.prog) (w:=W) 34 (.agg #[n0,n1,n2]) [n0,n1,n2] B.out hcs info_stB34 (by simp) (fun q hq => by
  simp only [List.mem_cons,List.mem_nil_iff,or_false] at hq
  rcases hq with rfl | rfl | rfl
  ·exact h0
  ·exact h1
  ·exact h2) (o:=0)
 have hb:(W.setCells g 0 [n0,n1,n2]).heap[g]? = some (.cells #[n0,n1,n2] 34 (0,0)):=set3 B.out
 have hB:Below w.heap.size w (W.setCells g 0 [n0,n1,n2]):=below_set (below_set (below_set HB G.out) G.out) G.out
 refine wpList_plain hgd fun K hK => ?_
 unfold Oper.wp execOp
 simp only [ho,haddr,hx,Sem.run_bind,Sem.run_pure,Result.andThen_ok,hr]
 show K (a.put o.dst undef) _
 rw [hN]
 refine hK _ _ (h _ hb hB ⟨?_,fun k hk hn => ?_⟩)
 ·exact Nat.le_of_eq (by simp [World.setCells])
 ·have hne:k ≠ g:=fun e => hn (by rw [e])
  exact (Below.heap_setCell ((W.setCell ⟨g,0,none⟩ n0).setCell ⟨g,1,none⟩ n1) ⟨g,2,none⟩ n2 k hne).trans ((Below.heap_setCell (W.setCell ⟨g,0,none⟩ n0) ⟨g,1,none⟩ n1 k hne).trans ((Below.heap_setCell W ⟨g,0,none⟩ n0 k hne)))
theorem info_stB28:(Tryz.prog.info? 28).map (·.size) = some 4:=by kernel_rfl
theorem stB28 {ops:Array Oper} {rest:List Oper} {o:Oper} {a:Act} {Q:Exit → Act → World → Prop} {W w:World} {g:Nat} {o0 o1 o2 o3 n0 n1 n2 n3:Value} (p:Tmp) (x:Operand) (B:Aside0 (W.heap[g]? = some (.cells #[o0,o1,o2,o3] 28 (0,0)))) (G:Aside0 (w.heap.size ≤ g))
  (h:∀ w1,w1.heap[g]? = some (.cells #[n0,n1,n2,n3] 28 (0,0)) → Below w.heap.size w w1 → KB W w1 (some g) → wpList Tryz.prog ops Q rest a w1)
  (hN:o.dst = none:=by rfl) (hgd:o.guard = none:=by rfl) (ho:o.op = .store 28 (.tmp p) x:=by rfl) (haddr:a.eval (.tmp p) = .pointer (some ⟨g,0,none⟩):=by rfl) (hx:a.eval x = .agg #[n0,n1,n2,n3]:=by rfl) (h0:n0.oneCell' = true:=by rfl) (h1:n1.oneCell' = true:=by rfl) (h2:n2.oneCell' = true:=by rfl) (h3:n3.oneCell' = true:=by rfl)
  (HB:Below w.heap.size w W:=by exact bel):wpList Tryz.prog ops Q (o :: rest) a W:=by
 have hcs:(Value.agg #[n0,n1,n2,n3]).cells.toList = [n0,n1,n2,n3]:=by simp [Value.cells]
 have hr:=run_store_run (P:=Tryz.prog) (w:=W) 28 (.agg #[n0,n1,n2,n3]) [n0,n1,n2,n3] B.out hcs info_stB28 (by simp) (fun q hq => by
  simp only [List.mem_cons,List.mem_nil_iff,or_false] at hq
  rcases hq with rfl | rfl | rfl | rfl
  ·exact h0
  ·exact h1
  ·exact h2
  ·exact h3) (o:=0)
 have hb:(W.setCells g 0 [n0,n1,n2,n3]).heap[g]? = some (.cells #[n0,n1,n2,n3] 28 (0,0)):=set4 B.out
 have hB:Below w.heap.size w (W.setCells g 0 [n0,n1,n2,n3]):=below_set (below_set (below_set (below_set HB G.out) G.out) G.out) G.out
 refine wpList_plain hgd fun K hK => ?_
 unfold Oper.wp execOp
 simp only [ho,haddr,hx,Sem.run_bind,Sem.run_pure,Result.andThen_ok,hr]
 show K (a.put o.dst undef) _
 rw [hN]
 refine hK _ _ (h _ hb hB ⟨?_,fun k hk hn => ?_⟩)
 ·exact Nat.le_of_eq (by simp [World.setCells])
 ·have hne:k ≠ g:=fun e => hn (by rw [e])
  exact (Below.heap_setCell (((W.setCell ⟨g,0,none⟩ n0).setCell ⟨g,1,none⟩ n1).setCell ⟨g,2,none⟩ n2) ⟨g,3,none⟩ n3 k hne).trans ((Below.heap_setCell ((W.setCell ⟨g,0,none⟩ n0).setCell ⟨g,1,none⟩ n1) ⟨g,2,none⟩ n2 k hne).trans ((Below.heap_setCell (W.setCell ⟨g,0,none⟩ n0) ⟨g,1,none⟩ n1 k hne).trans ((Below.heap_setCell W ⟨g,0,none⟩ n0 k hne))))
theorem profile_New.calls (key:ByteArray) (w:World):Calls Tryz.prog 9 #[.string key] w fun e w' => e = .returned (.tuple #[.agg #[.string (nmOf key),.slice none 0 0,.slice none 0 0,.slice none 0 0],.int .i64 (neOf key)]) ∧ Below w.heap.size w w':=by
 have hu28:=Tryz.underlying28
 have HB:=am (Below.refl w.heap.size w)
 have HI:=am (fun (W:World) => token_IsName.calls 100 key _ W (P.nameO key 100 (Nat.le_refl _)))
 unfold nmOf neOf
 cases hb:P.isName key with
 | true =>
  rw [hb] at HI
  go_enter Tryz.func9,Tryz.ntmps9
  go_wp2_with (first
   | ((with_reducible refine gate_dst (N:=2) rfl ?_);refine bxe 2 #[.string ⟨#[]⟩,.slice none 0 0,.slice none 0 0,.slice none 0 0] 28 ?_;intro g2 eg w1 b1 hb;have G2:Aside0 (w.heap.size ≤ g2):=szl eg (h:=HB.out);have B2:=am b1;replace HB:=bst hb (h:=HB.out);clear hb b1 eg;obtain ⟨z,f⟩:=cf4 B2.out)
   | (go_at_call 30;refine (HI.out w1).mono ?_;rintro e w2 ⟨rfl,⟨nd,rfl⟩⟩))
  refine bodyPost_ret (results_ct rfl _ _ g2 28 #[.string key,.slice none 0 0,.slice none 0 0,.slice none 0 0] (0,0) _ rfl (set4 sb) Tryz.underlying28 rfl (by kernel_rfl)) rfl ?_
  exact ⟨rfl,bel⟩
 | false =>
  rw [hb] at HI
  go_enter Tryz.func9,Tryz.ntmps9
  go_wp2_with (first
   | ((with_reducible refine gate_dst (N:=2) rfl ?_);refine bxe 2 #[.string ⟨#[]⟩,.slice none 0 0,.slice none 0 0,.slice none 0 0] 28 ?_;intro g2 eg w1 b1 hb;have G2:Aside0 (w.heap.size ≤ g2):=szl eg (h:=HB.out);have B2:=am b1;replace HB:=bst hb (h:=HB.out);clear hb b1 eg;obtain ⟨z,f⟩:=cf4 B2.out)
   | (go_at_call 30;refine (HI.out w1).mono ?_;rintro e w2 ⟨rfl,⟨nd,rfl⟩⟩))
  refine bodyPost_ret (results_ct rfl _ _ g2 28 #[.string ⟨#[]⟩,.slice none 0 0,.slice none 0 0,.slice none 0 0] (0,0) _ rfl (set4 sb) Tryz.underlying28 rfl (by kernel_rfl)) rfl ?_
  exact ⟨rfl,bel⟩
theorem ref53_New.calls (key:ByteArray) (w:World):Calls Tryz.prog 10 #[.string key] w fun e w' => e = .returned (.tuple #[.agg #[.string (nmOf key),.slice none 0 0,.slice none 0 0,.slice none 0 0],.int .i64 (neOf key)]) ∧ Below w.heap.size w w':=by
 have hu28:=Tryz.underlying28
 have HB:=am (Below.refl w.heap.size w)
 have HI:=am (fun (W:World) => ancepsref05_IsName.calls 100 key _ W (P.nameR key 100 (Nat.le_refl _)))
 unfold nmOf neOf
 cases hb:P.isName key with
 | true =>
  rw [hb] at HI
  go_enter Tryz.func10,Tryz.ntmps10
  go_wp2_with (first
   | ((with_reducible refine gate_dst (N:=2) rfl ?_);refine bxe 2 #[.string ⟨#[]⟩,.slice none 0 0,.slice none 0 0,.slice none 0 0] 28 ?_;intro g2 eg w1 b1 hb;have G2:Aside0 (w.heap.size ≤ g2):=szl eg (h:=HB.out);have B2:=am b1;replace HB:=bst hb (h:=HB.out);clear hb b1 eg;obtain ⟨z,f⟩:=cf4 B2.out)
   | (go_at_call 31;refine (HI.out w1).mono ?_;rintro e w2 ⟨rfl,⟨nd,rfl⟩⟩))
  refine bodyPost_ret (results_ct rfl _ _ g2 28 #[.string key,.slice none 0 0,.slice none 0 0,.slice none 0 0] (0,0) _ rfl (set4 sb) Tryz.underlying28 rfl (by kernel_rfl)) rfl ?_
  exact ⟨rfl,bel⟩
 | false =>
  rw [hb] at HI
  go_enter Tryz.func10,Tryz.ntmps10
  go_wp2_with (first
   | ((with_reducible refine gate_dst (N:=2) rfl ?_);refine bxe 2 #[.string ⟨#[]⟩,.slice none 0 0,.slice none 0 0,.slice none 0 0] 28 ?_;intro g2 eg w1 b1 hb;have G2:Aside0 (w.heap.size ≤ g2):=szl eg (h:=HB.out);have B2:=am b1;replace HB:=bst hb (h:=HB.out);clear hb b1 eg;obtain ⟨z,f⟩:=cf4 B2.out)
   | (go_at_call 31;refine (HI.out w1).mono ?_;rintro e w2 ⟨rfl,⟨nd,rfl⟩⟩))
  refine bodyPost_ret (results_ct rfl _ _ g2 28 #[.string ⟨#[]⟩,.slice none 0 0,.slice none 0 0,.slice none 0 0] (0,0) _ rfl (set4 sb) Tryz.underlying28 rfl (by kernel_rfl)) rfl ?_
  exact ⟨rfl,bel⟩
theorem same_new (x:ByteArray) (w:World):Calls Tryz.prog 12 #[.agg #[.string x,.slice none 0 0,.slice none 0 0,.slice none 0 0],.agg #[.string x,.slice none 0 0,.slice none 0 0,.slice none 0 0]] w fun e w' => e = .returned (.bool true) ∧ Below w.heap.size w w':=
 ancepsref53_Same.calls 30000 x none 0 [] none 0 [] none 0 [] x none 0 [] none 0 [] none 0 [] true w (Cnil _ _ _) (Nat.le_refl _) (Cnil _ _ _) (Nat.le_refl _) (Cnil _ _ _) (Nat.le_refl _) (Cnil _ _ _) (Nat.le_refl _) (Cnil _ _ _) (Nat.le_refl _) (Cnil _ _ _) (Nat.le_refl _) (P.same53 x [] [] [] [] (by decide) (by decide) (by decide) rfl 30000 (by decide))
theorem law (nm:ByteArray) (A1:Option Addr) (c1:Nat) (ls:List S72) (A2:Option Addr) (c2:Nat) (l:List ByteArray) (A3:Option Addr) (c3:Nat) (cs:List Int) (key:ByteArray) (w:World) (hr1:Kd.C k72 w A1 ls.length ls) (hc1:ls.length ≤ c1) (hr2:Kd.C Kd.string w A2 l.length l) (hc2:l.length ≤ c2) (hr3:Kd.C (Kd.int .i64) w A3 cs.length cs) (hc3:cs.length ≤ c3) (hT:EV.TabOK w) :
  Calls Tryz.prog 3 #[.agg #[.string nm,.slice A1 ls.length c1,.slice A2 l.length c2,.slice A3 cs.length c3],.string key] w fun e w' => e = .returned (.bool true) ∧ Below w.heap.size w w':=by
 have hu34:=Tryz.underlying34
 have hu28:=Tryz.underlying28
 have HB:=am (Below.refl w.heap.size w)
 have HT:=am hT
 obtain ⟨fa,eF,hA⟩:=P.few53 nm ls l cs hr1.2.1 (ls.length + 40000) (by omega)
 have HF:=am (fun (W:World) (h:Below w.heap.size w W) => ancepsref53_Few.calls (ls.length + 40000) nm A1 c1 ls A2 c2 l A3 c3 cs fa W (Kd.C_below hr1 h) hc1 (Kd.C_below hr2 h) hc2 (Kd.C_below hr3 h) hc3 eF)
 cases fa with
 | false =>
  clear hr1 hr2 hr3 hc1 hc2 hc3 hA eF hT
  go_enter Tryz.func3,Tryz.ntmps3
  go_wp2_with (first
   | ((with_reducible refine gate_dst (N:=2) rfl ?_);refine bxe 2 #[.string nm,.slice A1 ls.length c1,.slice A2 l.length c2,.slice A3 cs.length c3] 28 ?_;intro g2 eg wg2 b1 hb;have Gg2:Aside0 (w.heap.size ≤ g2):=szl eg (h:=HB.out);have Bg2:=am b1;replace HB:=bst hb (h:=HB.out);clear hb b1 eg;obtain ⟨zg2,fg2⟩:=cf4 Bg2.out)
   | (go_at_call 4;(with_reducible refine (EV.awake53 _ (EV.TabOK.below HT.out HB.out)).mono ?_);rintro e wc1 ⟨rfl,hb⟩;replace Bg2:=bbl g2 hb;replace HB:=bst hb (h:=HB.out);clear hb;clear zg2 fg2;obtain ⟨zg2,fg2⟩:=cf4 Bg2.out)
   | (go_at_call 5;(with_reducible refine (HF.out _ HB.out).mono ?_);rintro e wc2 ⟨rfl,hb⟩;replace Bg2:=bbl g2 hb;replace HB:=bst hb (h:=HB.out);clear hb;clear zg2 fg2;obtain ⟨zg2,fg2⟩:=cf4 Bg2.out))
  go_ret
  exact ⟨rfl,bel⟩
 | true =>
  by_cases hk:100 < key.size
  ·clear hr1 hr2 hr3 hc1 hc2 hc3 hA eF hT
   go_enter Tryz.func3,Tryz.ntmps3
   go_wp2_with (first
    | ((with_reducible refine gate_dst (N:=2) rfl ?_);refine bxe 2 #[.string nm,.slice A1 ls.length c1,.slice A2 l.length c2,.slice A3 cs.length c3] 28 ?_;intro g2 eg wg2 b1 hb;have Gg2:Aside0 (w.heap.size ≤ g2):=szl eg (h:=HB.out);have Bg2:=am b1;replace HB:=bst hb (h:=HB.out);clear hb b1 eg;obtain ⟨zg2,fg2⟩:=cf4 Bg2.out)
    | (go_at_call 4;(with_reducible refine (EV.awake53 _ (EV.TabOK.below HT.out HB.out)).mono ?_);rintro e wc1 ⟨rfl,hb⟩;replace Bg2:=bbl g2 hb;replace HB:=bst hb (h:=HB.out);clear hb;clear zg2 fg2;obtain ⟨zg2,fg2⟩:=cf4 Bg2.out)
    | (go_at_call 5;(with_reducible refine (HF.out _ HB.out).mono ?_);rintro e wc2 ⟨rfl,hb⟩;replace Bg2:=bbl g2 hb;replace HB:=bst hb (h:=HB.out);clear hb;clear zg2 fg2;obtain ⟨zg2,fg2⟩:=cf4 Bg2.out))
   go_ret
   exact ⟨rfl,bel⟩
  ·have HO:=am (fun (W:World) (h:Below w.heap.size w W) => ancepslaw53_own.calls nm A1 c1 ls A2 c2 l A3 c3 cs nm ls l cs W (Kd.C_below hr1 h) hc1 (Kd.C_below hr2 h) hc2 (Kd.C_below hr3 h) hc3 (P.ownIs nm ls l cs (hA rfl)))
   have HR:=am (fun (W:World) (h:Below w.heap.size w W) => ref53_Rate.calls nm A1 c1 ls A2 c2 l A3 c3 cs key W (Kd.C_below hr1 h) hc1 (Kd.C_below hr2 h) hc2 (Kd.C_below hr3 h) hc3)
   have HN:=am (fun (W:World) => profile_New.calls key W)
   have HM:=am (fun (W:World) => ref53_New.calls key W)
   have HS:=am (fun (W:World) => same_new (nmOf key) W)
   have HP:=am (fun (W:World) (a1:Option Addr) (d1:Nat) (a2:Option Addr) (d2:Nat) (a3:Option Addr) (d3:Nat) => profile_Rate.calls nm a1 d1 ls a2 d2 l a3 d3 cs key W)
   generalize rN nm ls l cs key = N at *
   generalize rM nm ls l cs key = M at *
   generalize rErr nm ls l cs key = r at *
   generalize nmOf key = x at *
   generalize neOf key = s at *
   clear hr1 hr2 hr3 hc1 hc2 hc3 hA eF hT
   go_enter Tryz.func3,Tryz.ntmps3
   go_wp2_with (first
    | ((with_reducible refine gate_dst (N:=2) rfl ?_);refine bxe 2 #[.string nm,.slice A1 ls.length c1,.slice A2 l.length c2,.slice A3 cs.length c3] 28 ?_;intro g2 eg wg2 b1 hb;have Gg2:Aside0 (w.heap.size ≤ g2):=szl eg (h:=HB.out);have Bg2:=am b1;replace HB:=bst hb (h:=HB.out);clear hb b1 eg;obtain ⟨zg2,fg2⟩:=cf4 Bg2.out)
    | (go_at_call 4;(with_reducible refine (EV.awake53 _ (EV.TabOK.below HT.out HB.out)).mono ?_);rintro e wc1 ⟨rfl,hb⟩;replace Bg2:=bbl g2 hb;replace HB:=bst hb (h:=HB.out);clear hb;clear zg2 fg2;obtain ⟨zg2,fg2⟩:=cf4 Bg2.out)
    | (go_at_call 5;(with_reducible refine (HF.out _ HB.out).mono ?_);rintro e wc2 ⟨rfl,hb⟩;replace Bg2:=bbl g2 hb;replace HB:=bst hb (h:=HB.out);clear hb;clear zg2 fg2;obtain ⟨zg2,fg2⟩:=cf4 Bg2.out)
    | (go_at_call 7;(with_reducible refine (HO.out _ HB.out).mono ?_);rintro e wc3 ⟨v1,v2,v3,rfl,O1,O2,O3,hb⟩;replace Bg2:=bbl g2 hb;obtain ⟨a1,d1,rfl⟩:=Kd.R_slice O1;obtain ⟨a2,d2,rfl⟩:=Kd.R_slice O2;obtain ⟨a3,d3,rfl⟩:=Kd.R_slice O3;replace HB:=bst hb (h:=HB.out);clear hb;clear zg2 fg2;obtain ⟨zg2,fg2⟩:=cf4 Bg2.out)
    | (go_at_call 6;(with_reducible refine (HP.out _ a1 d1 a2 d2 a3 d3 (Kd.R_reads' O1).2.2 (Kd.R_reads' O1).2.1 (Kd.R_reads' O2).2.2 (Kd.R_reads' O2).2.1 (Kd.R_reads' O3).2.2 (Kd.R_reads' O3).2.1).mono ?_);rintro e wc4 ⟨F1,e1,F2,e2,rfl,R1,R2,hb⟩;replace Bg2:=bbl g2 hb;replace R1:=rlo R1 (h:=HB.out);replace R2:=rlo R2 (h:=HB.out);replace HB:=bst hb (h:=HB.out);clear hb O1 O2 O3;clear zg2 fg2;obtain ⟨zg2,fg2⟩:=cf4 Bg2.out)
    | ((with_reducible refine gate_dst (N:=5) rfl ?_);refine bxe 5 #[.bool false,.slice none 0 0,.slice none 0 0] 34 ?_;intro g5 eg wg5 b1 hb;have Gg5:Aside0 (w.heap.size ≤ g5):=szl eg (h:=HB.out);have Ng2_g5:=nel g2 eg (Bg2.out);replace Bg2:=bbl g2 hb;replace R1:=rbl R1 hb;replace R2:=rbl R2 hb;have Bg5:=am b1;replace HB:=bst hb (h:=HB.out);clear hb b1 eg;clear zg2 fg2;obtain ⟨zg2,fg2⟩:=cf4 Bg2.out;obtain ⟨zg5,fg5⟩:=cf3 Bg5.out)
    | (refine gate_ (.store 34 (.tmp 5) (.tmp 31)) rfl ?_;refine stB34 5 _ Bg5 Gg5 ?_ (HB:=HB.out);intro ws6 b1 HB1 kb;replace R1:=kbR R1 Bg5 kb;replace R2:=kbR R2 Bg5 kb;replace Bg2:=kbB Bg2 (Ng2_g5.out) kb;replace Bg5:=am b1;replace HB:=am HB1;clear b1 HB1 kb;clear zg2 fg2 zg5 fg5;obtain ⟨zg2,fg2⟩:=cf4 Bg2.out;obtain ⟨zg5,fg5⟩:=cf3 Bg5.out)
    | (go_at_call 8;(with_reducible refine (HR.out _ HB.out).mono ?_);rintro e wc7 ⟨F3,e3,F4,e4,rfl,R3,R4,hb⟩;replace Bg2:=bbl g2 hb;replace Bg5:=bbl g5 hb;replace R1:=rbl R1 hb;replace R2:=rbl R2 hb;replace R3:=rlo R3 (h:=HB.out);replace R4:=rlo R4 (h:=HB.out);replace HB:=bst hb (h:=HB.out);clear hb HR;clear zg2 fg2 zg5 fg5;obtain ⟨zg2,fg2⟩:=cf4 Bg2.out;obtain ⟨zg5,fg5⟩:=cf3 Bg5.out)
    | ((with_reducible refine gate_dst (N:=7) rfl ?_);refine bxe 7 #[.bool false,.slice none 0 0,.slice none 0 0] 34 ?_;intro g7 eg wg7 b1 hb;have Gg7:Aside0 (w.heap.size ≤ g7):=szl eg (h:=HB.out);have Ng2_g7:=nel g2 eg (Bg2.out);have Ng5_g7:=nel g5 eg (Bg5.out);replace Bg2:=bbl g2 hb;replace Bg5:=bbl g5 hb;replace R1:=rbl R1 hb;replace R2:=rbl R2 hb;replace R3:=rbl R3 hb;replace R4:=rbl R4 hb;have Bg7:=am b1;replace HB:=bst hb (h:=HB.out);clear hb b1 eg;clear zg2 fg2 zg5 fg5;obtain ⟨zg2,fg2⟩:=cf4 Bg2.out;obtain ⟨zg5,fg5⟩:=cf3 Bg5.out;obtain ⟨zg7,fg7⟩:=cf3 Bg7.out)
    | (refine gate_ (.store 34 (.tmp 7) (.tmp 37)) rfl ?_;refine stB34 7 _ Bg7 Gg7 ?_ (HB:=HB.out);intro ws9 b1 HB1 kb;replace R1:=kbR R1 Bg7 kb;replace R2:=kbR R2 Bg7 kb;replace R3:=kbR R3 Bg7 kb;replace R4:=kbR R4 Bg7 kb;replace Bg2:=kbB Bg2 (Ng2_g7.out) kb;replace Bg5:=kbB Bg5 (Ng5_g7.out) kb;replace Bg7:=am b1;replace HB:=am HB1;clear b1 HB1 kb;clear zg2 fg2 zg5 fg5 zg7 fg7;obtain ⟨zg2,fg2⟩:=cf4 Bg2.out;obtain ⟨zg5,fg5⟩:=cf3 Bg5.out;obtain ⟨zg7,fg7⟩:=cf3 Bg7.out)
    | (go_at_call 9;(with_reducible refine (HN.out _).mono ?_);rintro e wc10 ⟨rfl,hb⟩;replace Bg2:=bbl g2 hb;replace Bg5:=bbl g5 hb;replace Bg7:=bbl g7 hb;replace R1:=rbl R1 hb;replace R2:=rbl R2 hb;replace R3:=rbl R3 hb;replace R4:=rbl R4 hb;replace HB:=bst hb (h:=HB.out);clear hb HN;clear zg2 fg2 zg5 fg5 zg7 fg7;obtain ⟨zg2,fg2⟩:=cf4 Bg2.out;obtain ⟨zg5,fg5⟩:=cf3 Bg5.out;obtain ⟨zg7,fg7⟩:=cf3 Bg7.out)
    | ((with_reducible refine gate_dst (N:=9) rfl ?_);refine bxe 9 #[.string ⟨#[]⟩,.slice none 0 0,.slice none 0 0,.slice none 0 0] 28 ?_;intro g9 eg wg9 b1 hb;have Gg9:Aside0 (w.heap.size ≤ g9):=szl eg (h:=HB.out);have Ng2_g9:=nel g2 eg (Bg2.out);have Ng5_g9:=nel g5 eg (Bg5.out);have Ng7_g9:=nel g7 eg (Bg7.out);replace Bg2:=bbl g2 hb;replace Bg5:=bbl g5 hb;replace Bg7:=bbl g7 hb;replace R1:=rbl R1 hb;replace R2:=rbl R2 hb;replace R3:=rbl R3 hb;replace R4:=rbl R4 hb;have Bg9:=am b1;replace HB:=bst hb (h:=HB.out);clear hb b1 eg;clear zg2 fg2 zg5 fg5 zg7 fg7;obtain ⟨zg2,fg2⟩:=cf4 Bg2.out;obtain ⟨zg5,fg5⟩:=cf3 Bg5.out;obtain ⟨zg7,fg7⟩:=cf3 Bg7.out;obtain ⟨zg9,fg9⟩:=cf4 Bg9.out)
    | (refine gate_ (.store 28 (.tmp 9) (.tmp 42)) rfl ?_;refine stB28 9 _ Bg9 Gg9 ?_ (HB:=HB.out);intro ws12 b1 HB1 kb;replace R1:=kbR R1 Bg9 kb;replace R2:=kbR R2 Bg9 kb;replace R3:=kbR R3 Bg9 kb;replace R4:=kbR R4 Bg9 kb;replace Bg2:=kbB Bg2 (Ng2_g9.out) kb;replace Bg5:=kbB Bg5 (Ng5_g9.out) kb;replace Bg7:=kbB Bg7 (Ng7_g9.out) kb;replace Bg9:=am b1;replace HB:=am HB1;clear b1 HB1 kb;clear zg2 fg2 zg5 fg5 zg7 fg7 zg9 fg9;obtain ⟨zg2,fg2⟩:=cf4 Bg2.out;obtain ⟨zg5,fg5⟩:=cf3 Bg5.out;obtain ⟨zg7,fg7⟩:=cf3 Bg7.out;obtain ⟨zg9,fg9⟩:=cf4 Bg9.out)
    | (go_at_call 10;(with_reducible refine (HM.out _).mono ?_);rintro e wc13 ⟨rfl,hb⟩;replace Bg2:=bbl g2 hb;replace Bg5:=bbl g5 hb;replace Bg7:=bbl g7 hb;replace Bg9:=bbl g9 hb;replace R1:=rbl R1 hb;replace R2:=rbl R2 hb;replace R3:=rbl R3 hb;replace R4:=rbl R4 hb;replace HB:=bst hb (h:=HB.out);clear hb HM;clear zg2 fg2 zg5 fg5 zg7 fg7 zg9 fg9;obtain ⟨zg2,fg2⟩:=cf4 Bg2.out;obtain ⟨zg5,fg5⟩:=cf3 Bg5.out;obtain ⟨zg7,fg7⟩:=cf3 Bg7.out;obtain ⟨zg9,fg9⟩:=cf4 Bg9.out)
    | ((with_reducible refine gate_dst (N:=11) rfl ?_);refine bxe 11 #[.string ⟨#[]⟩,.slice none 0 0,.slice none 0 0,.slice none 0 0] 28 ?_;intro g11 eg wg11 b1 hb;have Gg11:Aside0 (w.heap.size ≤ g11):=szl eg (h:=HB.out);have Ng2_g11:=nel g2 eg (Bg2.out);have Ng5_g11:=nel g5 eg (Bg5.out);have Ng7_g11:=nel g7 eg (Bg7.out);have Ng9_g11:=nel g9 eg (Bg9.out);replace Bg2:=bbl g2 hb;replace Bg5:=bbl g5 hb;replace Bg7:=bbl g7 hb;replace Bg9:=bbl g9 hb;replace R1:=rbl R1 hb;replace R2:=rbl R2 hb;replace R3:=rbl R3 hb;replace R4:=rbl R4 hb;have Bg11:=am b1;replace HB:=bst hb (h:=HB.out);clear hb b1 eg;clear zg2 fg2 zg5 fg5 zg7 fg7 zg9 fg9;obtain ⟨zg2,fg2⟩:=cf4 Bg2.out;obtain ⟨zg5,fg5⟩:=cf3 Bg5.out;obtain ⟨zg7,fg7⟩:=cf3 Bg7.out;obtain ⟨zg9,fg9⟩:=cf4 Bg9.out;obtain ⟨zg11,fg11⟩:=cf4 Bg11.out)
    | (refine gate_ (.store 28 (.tmp 11) (.tmp 47)) rfl ?_;refine stB28 11 _ Bg11 Gg11 ?_ (HB:=HB.out);intro ws15 b1 HB1 kb;replace R1:=kbR R1 Bg11 kb;replace R2:=kbR R2 Bg11 kb;replace R3:=kbR R3 Bg11 kb;replace R4:=kbR R4 Bg11 kb;replace Bg2:=kbB Bg2 (Ng2_g11.out) kb;replace Bg5:=kbB Bg5 (Ng5_g11.out) kb;replace Bg7:=kbB Bg7 (Ng7_g11.out) kb;replace Bg9:=kbB Bg9 (Ng9_g11.out) kb;replace Bg11:=am b1;replace HB:=am HB1;clear b1 HB1 kb;clear zg2 fg2 zg5 fg5 zg7 fg7 zg9 fg9 zg11 fg11;obtain ⟨zg2,fg2⟩:=cf4 Bg2.out;obtain ⟨zg5,fg5⟩:=cf3 Bg5.out;obtain ⟨zg7,fg7⟩:=cf3 Bg7.out;obtain ⟨zg9,fg9⟩:=cf4 Bg9.out;obtain ⟨zg11,fg11⟩:=cf4 Bg11.out)
    | (go_at_call 11;(with_reducible refine (ref03_Same.calls F1 F2 F3 F4 e1 e2 e3 e4 N M _ (rC R1) (rC R2) (rC R3) (rC R4)).mono ?_);rintro e wc16 ⟨rfl,hb⟩;replace Bg2:=bbl g2 hb;replace Bg5:=bbl g5 hb;replace Bg7:=bbl g7 hb;replace Bg9:=bbl g9 hb;replace Bg11:=bbl g11 hb;replace R1:=rbl R1 hb;replace R2:=rbl R2 hb;replace R3:=rbl R3 hb;replace R4:=rbl R4 hb;replace HB:=bst hb (h:=HB.out);clear hb;clear zg2 fg2 zg5 fg5 zg7 fg7 zg9 fg9 zg11 fg11;obtain ⟨zg2,fg2⟩:=cf4 Bg2.out;obtain ⟨zg5,fg5⟩:=cf3 Bg5.out;obtain ⟨zg7,fg7⟩:=cf3 Bg7.out;obtain ⟨zg9,fg9⟩:=cf4 Bg9.out;obtain ⟨zg11,fg11⟩:=cf4 Bg11.out)
    | (go_at_call 12;(with_reducible refine (HS.out _).mono ?_);rintro e wc17 ⟨rfl,hb⟩;replace Bg2:=bbl g2 hb;replace Bg5:=bbl g5 hb;replace Bg7:=bbl g7 hb;replace Bg9:=bbl g9 hb;replace Bg11:=bbl g11 hb;replace R1:=rbl R1 hb;replace R2:=rbl R2 hb;replace R3:=rbl R3 hb;replace R4:=rbl R4 hb;replace HB:=bst hb (h:=HB.out);clear hb;clear zg2 fg2 zg5 fg5 zg7 fg7 zg9 fg9 zg11 fg11;obtain ⟨zg2,fg2⟩:=cf4 Bg2.out;obtain ⟨zg5,fg5⟩:=cf3 Bg5.out;obtain ⟨zg7,fg7⟩:=cf3 Bg7.out;obtain ⟨zg9,fg9⟩:=cf4 Bg9.out;obtain ⟨zg11,fg11⟩:=cf4 Bg11.out))
   go_ret
   exact ⟨rfl,bel⟩
end Go.Proofs.YtnbcnoabbdegpaaGreatDoor.V
