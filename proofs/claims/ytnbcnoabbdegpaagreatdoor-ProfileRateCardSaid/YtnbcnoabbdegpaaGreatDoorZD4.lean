/- A part of the proof of the tied card of ProfileRate (chapter 53): the law returns true whatever the input. -/
import Derived.Test.YtnbcnoabbdegpaaGreatDoorZD3
import Derived.Test.YtnbcnoabbdegpaaGreatDoorZD2
set_option linter.unusedVariables false
set_option linter.unusedSimpArgs false
namespace Go.Proofs.YtnbcnoabbdegpaaGreatDoor.V
open Go.RowKit Go.Proofs.YtnbcnoabbdegpaaGreatDoorW.PrintWords Go.Proofs.YtnbcnoabbdegpaaGreatDoorW.PrintLast Go.Proofs.YtnbcnoabbdegpaaGreatDoorW.PrintMore
attribute [local go_sem] max2_int min2_int max_two min_two
set_option linter.unusedVariables false
set_option linter.unusedSimpArgs false
set_option maxHeartbeats 8000000
set_option maxRecDepth 100000
theorem cf3 {w:World} {g:Nat} {t:TypeId} {a b c:Value} (h:w.heap[g]? = some (.cells #[a,b,c] t (0,0))):(w.cell? ⟨g,0,none⟩ = some a ∧ w.cell? ⟨g,1,none⟩ = some b ∧ w.cell? ⟨g,2,none⟩ = some c) ∧ w.frozen? ⟨g,0,none⟩ = false ∧ w.frozen? ⟨g,1,none⟩ = false ∧ w.frozen? ⟨g,2,none⟩ = false:=⟨⟨c0 h,c1 h,c2 h⟩,blk_frozen h 0,blk_frozen h 1,blk_frozen h 2⟩
theorem info32:(Tryz.prog.info? 32).map (·.size) = some 1:=by kernel_rfl
section
variable {ops:Array Oper} {rest:List Oper} {o:Oper} {a:Act} {Q:Exit → Act → World → Prop} {W w w1:World}
theorem stB {g:Nat} {old new:Value} (p:Tmp) (x:Operand) (B:Aside0 (W.heap[g]? = some (.cells #[old] 32 (0,0)))) (G:Aside0 (w.heap.size ≤ g))
  (h:∀ w1,w1.heap[g]? = some (.cells #[new] 32 (0,0)) → Below w.heap.size w w1 → KB W w1 (some g) → wpList Tryz.prog ops Q rest a w1)
  (hN:o.dst = none:=by rfl) (hgd:o.guard = none:=by rfl) (ho:o.op = .store 32 (.tmp p) x:=by rfl) (haddr:a.eval (.tmp p) = .pointer (some ⟨g,0,none⟩):=by rfl) (hx:a.eval x = .agg #[new]:=by rfl) (h1:new.oneCell' = true:=by rfl) (hc:new.cells.toList = [new]:=by rfl)
  (HB:Below w.heap.size w W:=by exact bel):wpList Tryz.prog ops Q (o :: rest) a W:=by
 have hcells:(Value.agg #[new]).cells.toList = [new]:=by simp [Value.cells]
 have hr:=run_store_run (P:=Tryz.prog) (w:=W) 32 (.agg #[new]) [new] B.out hcells info32 (by simp) (fun q hq => by rw [List.mem_singleton.1 hq];exact h1) (o:=0)
 have hb:(W.setCells g 0 [new]).heap[g]? = some (.cells #[new] 32 (0,0)):=blk_put B.out 0 new rfl
 have hB:Below w.heap.size w (W.setCells g 0 [new]):=below_set HB G.out
 refine wpList_plain hgd fun K hK => ?_
 unfold Oper.wp execOp
 simp only [ho,haddr,hx,Sem.run_bind,Sem.run_pure,Result.andThen_ok,hr]
 show K (a.put o.dst undef) _
 rw [hN]
 refine hK _ _ (h _ hb hB ⟨?_,fun k hk hn => ?_⟩)
 ·exact Nat.le_of_eq (by simp [World.setCells])
 ·exact Below.heap_setCell W ⟨g,0,none⟩ new k (fun e => hn (by rw [e]))
theorem kbB {g g':Nat} {ob:Obj} (B:Aside0 (W.heap[g']? = some ob)) (hn:g' ≠ g) (hk:KB W w1 (some g)):Aside0 (w1.heap[g']? = some ob):=
 ⟨(hk.2 g' (blk_lt B.out) (fun e => hn (Option.some.inj e))).trans B.out⟩
theorem kbR {g:Nat} {v:Value} {xs:List Int} {cs:Array Value} {t:TypeId} (R:Aside0 (RI W w v xs)) (B:Aside0 (W.heap[g]? = some (.cells cs t (0,0)))) (hk:KB W w1 (some g)) (ht:∀ q,q ∈ 3 :: (Kd.int .i64).E → q ≠ t:=by decide):Aside0 (RI w1 w v xs):=
 ⟨Kd.R_mono (Kd.R_move (Kd.R_bound (Kd.R_types R.out B.out ht)) (fun k hq => hk.2 k hq.2.2.1 (fun e => hq.1.2 (Option.some.inj e)))) (fun _ _ => trivial)⟩
end
section
variable {P:Program}
theorem results_cct {fn:Func} {p p' u:Tmp} {ty ty':TypeId} (h:fn.results = #[.cell p ty,.cell p' ty',.tmp u]) (tmps:Array Value) (w:World) (g g':Nat) (t t':TypeId) (cs cs':Array Value) (fr fr':Nat × Nat) (d d':TypeDesc)
  (hp:tmps.getD p undef = .pointer (some ⟨g,0,none⟩)) (hg:w.heap[g]? = some (.cells cs t fr))
  (hu:P.underlying ty = some d) (hd:(match d with | .struct _ | .array _ _ => true | _ => false) = true) (hi:(P.info? ty).map (·.size) = some cs.size)
  (hp':tmps.getD p' undef = .pointer (some ⟨g',0,none⟩)) (hg':w.heap[g']? = some (.cells cs' t' fr'))
  (hu':P.underlying ty' = some d') (hd':(match d' with | .struct _ | .array _ _ => true | _ => false) = true) (hi':(P.info? ty').map (·.size) = some cs'.size) :
  (results fn tmps).run P w = .ok (.tuple #[.agg cs,.agg cs',tmps.getD u undef]) w:=by
 have h1:tmps[p]?.getD undef = .pointer (some ⟨g,0,none⟩):=by simpa using hp
 have h2:tmps[p']?.getD undef = .pointer (some ⟨g',0,none⟩):=by simpa using hp'
 simp [results,h,h1,h2,asAddr,run_loadVar_row w g t ty cs fr d hg hu hd hi,run_loadVar_row w g' t' ty' cs' fr' d' hg' hu' hd' hi']
end
theorem natural_ofd.calls (A:Option Addr) (c n:Nat) (w0 w:World) (hr:RI w w0 (.slice A (ND.digs n).length c) (ND.digs n)) (hb:Below w0.heap.size w0 w) :
  Calls Tryz.prog 195 #[.slice A (ND.digs n).length c] w fun e w' => RetN w0 w w' e n:=by
 have h:=natural_of.calls A c (ND.digs n) w0 w hr hb (ND.ok_digs n)
 rw [ND.val_digs] at h
 exact h
theorem natural_Div.calls (A B:Option Addr) (c d:Nat) (x y:Nat) (w:World) (ha:CI w A (ND.digs x)) (hac:(ND.digs x).length ≤ c) (hb:CI w B (ND.digs y)) (hbd:(ND.digs y).length ≤ d) (hy:0 < y) (lx:(ND.digs x).length ≤ 200) (ly:(ND.digs y).length ≤ 200) :
  Calls Tryz.prog 114 #[.agg #[.slice A (ND.digs x).length c],.agg #[.slice B (ND.digs y).length d]] w fun e w' => ∃ A1 c1 A2 c2,e = .returned (.tuple #[.agg #[.slice A1 (ND.digs (x / y)).length c1],.agg #[.slice A2 (ND.digs (x % y)).length c2],.int .i64 0]) ∧ RI w' w (.slice A1 (ND.digs (x / y)).length c1) (ND.digs (x / y)) ∧ Below w.heap.size w w':=by
 have hu32:=Tryz.underlying32
 have HA:=am ha
 have HC:=am hb
 have LX:=am lx
 have LY:=am ly
 have HB:=am (Below.refl w.heap.size w)
 have hz:¬ (ND.digs y).length = 0:=fun e => by have:=List.length_eq_zero_iff.1 e;have h2:=ND.val_digs y;rw [this] at h2;have h3:(0:Nat) = y:=h2;omega
 have HD:=am (fun (W:World) (h1:CI W A (ND.digs x)) (h2:CI W B (ND.digs y)) => natural_divide.calls A B c d (ND.digs x) (ND.digs y) W h1 hac h2 hbd (ND.ok_digs x) (ND.ok_digs y) (by rw [ND.val_digs];exact hy) (by omega) (by omega))
 rw [ND.val_digs,ND.val_digs] at HD
 clear ha hb lx ly hac hbd
 go_enter Tryz.func114,Tryz.ntmps114
 go_wp2_with (first
  | ((with_reducible refine gate_dst (N:=2) rfl ?_);refine bxe 2 #[.slice A (ND.digs x).length c] 32 ?_;intro g2 eg wg2 b1 hb;have Gg2:Aside0 (w.heap.size ≤ g2):=szl eg (h:=HB.out);have Bg2:=am b1;replace HB:=bst hb (h:=HB.out);clear hb b1 eg;obtain ⟨zg2,fg2⟩:=cf1 Bg2.out)
  | ((with_reducible refine gate_dst (N:=3) rfl ?_);refine bxe 3 #[.slice B (ND.digs y).length d] 32 ?_;intro g3 eg wg3 b1 hb;have Gg3:Aside0 (w.heap.size ≤ g3):=szl eg (h:=HB.out);have Ng2_g3:=nel g2 eg (Bg2.out);replace Bg2:=bbl g2 hb;have Bg3:=am b1;replace HB:=bst hb (h:=HB.out);clear hb b1 eg;clear zg2 fg2;obtain ⟨zg2,fg2⟩:=cf1 Bg2.out;obtain ⟨zg3,fg3⟩:=cf1 Bg3.out)
  | ((with_reducible refine gate_dst (N:=4) rfl ?_);refine bxe 4 #[.slice none 0 0] 32 ?_;intro g4 eg wg4 b1 hb;have Gg4:Aside0 (w.heap.size ≤ g4):=szl eg (h:=HB.out);have Ng2_g4:=nel g2 eg (Bg2.out);have Ng3_g4:=nel g3 eg (Bg3.out);replace Bg2:=bbl g2 hb;replace Bg3:=bbl g3 hb;have Bg4:=am b1;replace HB:=bst hb (h:=HB.out);clear hb b1 eg;clear zg2 fg2 zg3 fg3;obtain ⟨zg2,fg2⟩:=cf1 Bg2.out;obtain ⟨zg3,fg3⟩:=cf1 Bg3.out;obtain ⟨zg4,fg4⟩:=cf1 Bg4.out)
  | ((with_reducible refine gate_dst (N:=5) rfl ?_);refine bxe 5 #[.slice none 0 0] 32 ?_;intro g5 eg wg5 b1 hb;have Gg5:Aside0 (w.heap.size ≤ g5):=szl eg (h:=HB.out);have Ng2_g5:=nel g2 eg (Bg2.out);have Ng3_g5:=nel g3 eg (Bg3.out);have Ng4_g5:=nel g4 eg (Bg4.out);replace Bg2:=bbl g2 hb;replace Bg3:=bbl g3 hb;replace Bg4:=bbl g4 hb;have Bg5:=am b1;replace HB:=bst hb (h:=HB.out);clear hb b1 eg;clear zg2 fg2 zg3 fg3 zg4 fg4;obtain ⟨zg2,fg2⟩:=cf1 Bg2.out;obtain ⟨zg3,fg3⟩:=cf1 Bg3.out;obtain ⟨zg4,fg4⟩:=cf1 Bg4.out;obtain ⟨zg5,fg5⟩:=cf1 Bg5.out)
  | (go_at_call 193;(with_reducible refine (natural_Valid.calls A c x _ (Kd.C_below HA.out HB.out) LX.out).mono ?_);rintro e wc4 ⟨rfl,hb⟩;replace Bg2:=bbl g2 hb;replace Bg3:=bbl g3 hb;replace Bg4:=bbl g4 hb;replace Bg5:=bbl g5 hb;replace HB:=bst hb (h:=HB.out);clear hb;clear zg2 fg2 zg3 fg3 zg4 fg4 zg5 fg5;obtain ⟨zg2,fg2⟩:=cf1 Bg2.out;obtain ⟨zg3,fg3⟩:=cf1 Bg3.out;obtain ⟨zg4,fg4⟩:=cf1 Bg4.out;obtain ⟨zg5,fg5⟩:=cf1 Bg5.out)
  | (go_at_call 193;(with_reducible refine (natural_Valid.calls B d y _ (Kd.C_below HC.out HB.out) LY.out).mono ?_);rintro e wc5 ⟨rfl,hb⟩;replace Bg2:=bbl g2 hb;replace Bg3:=bbl g3 hb;replace Bg4:=bbl g4 hb;replace Bg5:=bbl g5 hb;replace HB:=bst hb (h:=HB.out);clear hb;clear zg2 fg2 zg3 fg3 zg4 fg4 zg5 fg5;obtain ⟨zg2,fg2⟩:=cf1 Bg2.out;obtain ⟨zg3,fg3⟩:=cf1 Bg3.out;obtain ⟨zg4,fg4⟩:=cf1 Bg4.out;obtain ⟨zg5,fg5⟩:=cf1 Bg5.out)
  | (go_at_call 194;(with_reducible refine (HD.out _ (Kd.C_below HA.out HB.out) (Kd.C_below HC.out HB.out)).mono ?_);rintro e wc6 ⟨A1,c1,A2,c2,rfl,R1,R2,hb⟩;replace Bg2:=bbl g2 hb;replace Bg3:=bbl g3 hb;replace Bg4:=bbl g4 hb;replace Bg5:=bbl g5 hb;replace R1:=rlo R1 (h:=HB.out);replace R2:=rlo R2 (h:=HB.out);replace HB:=bst hb (h:=HB.out);clear hb;clear zg2 fg2 zg3 fg3 zg4 fg4 zg5 fg5;obtain ⟨zg2,fg2⟩:=cf1 Bg2.out;obtain ⟨zg3,fg3⟩:=cf1 Bg3.out;obtain ⟨zg4,fg4⟩:=cf1 Bg4.out;obtain ⟨zg5,fg5⟩:=cf1 Bg5.out)
  | (go_at_call 195;(with_reducible refine (natural_ofd.calls A1 c1 (x / y) w _ R1.out HB.out).mono ?_);rintro e wc7 ⟨A3,c3,rfl,R3,hb⟩;replace Bg2:=bbl g2 hb;replace Bg3:=bbl g3 hb;replace Bg4:=bbl g4 hb;replace Bg5:=bbl g5 hb;replace R1:=rbl R1 hb;replace R2:=rbl R2 hb;replace R3:=am R3;replace HB:=bst hb (h:=HB.out);clear hb;clear zg2 fg2 zg3 fg3 zg4 fg4 zg5 fg5;obtain ⟨zg2,fg2⟩:=cf1 Bg2.out;obtain ⟨zg3,fg3⟩:=cf1 Bg3.out;obtain ⟨zg4,fg4⟩:=cf1 Bg4.out;obtain ⟨zg5,fg5⟩:=cf1 Bg5.out)
  | (go_at_call 195;(with_reducible refine (natural_ofd.calls A2 c2 (x % y) w _ R2.out HB.out).mono ?_);rintro e wc8 ⟨A4,c4,rfl,R4,hb⟩;replace Bg2:=bbl g2 hb;replace Bg3:=bbl g3 hb;replace Bg4:=bbl g4 hb;replace Bg5:=bbl g5 hb;replace R1:=rbl R1 hb;replace R2:=rbl R2 hb;replace R3:=rbl R3 hb;replace R4:=am R4;replace HB:=bst hb (h:=HB.out);clear hb;clear zg2 fg2 zg3 fg3 zg4 fg4 zg5 fg5;obtain ⟨zg2,fg2⟩:=cf1 Bg2.out;obtain ⟨zg3,fg3⟩:=cf1 Bg3.out;obtain ⟨zg4,fg4⟩:=cf1 Bg4.out;obtain ⟨zg5,fg5⟩:=cf1 Bg5.out)
  | (refine gate_ (.store 32 (.tmp 4) (.tmp 36)) rfl ?_;refine stB 4 _ Bg4 Gg4 ?_ (HB:=HB.out);intro ws9 b1 HB1 kb;replace R1:=kbR R1 Bg4 kb;replace R2:=kbR R2 Bg4 kb;replace R3:=kbR R3 Bg4 kb;replace R4:=kbR R4 Bg4 kb;replace Bg2:=kbB Bg2 (Ng2_g4.out) kb;replace Bg3:=kbB Bg3 (Ng3_g4.out) kb;replace Bg5:=kbB Bg5 (Ng4_g5.out.symm) kb;replace Bg4:=am b1;replace HB:=am HB1;clear b1 HB1 kb;clear zg2 fg2 zg3 fg3 zg4 fg4 zg5 fg5;obtain ⟨zg2,fg2⟩:=cf1 Bg2.out;obtain ⟨zg3,fg3⟩:=cf1 Bg3.out;obtain ⟨zg4,fg4⟩:=cf1 Bg4.out;obtain ⟨zg5,fg5⟩:=cf1 Bg5.out)
  | (refine gate_ (.store 32 (.tmp 5) (.tmp 38)) rfl ?_;refine stB 5 _ Bg5 Gg5 ?_ (HB:=HB.out);intro ws10 b1 HB1 kb;replace R1:=kbR R1 Bg5 kb;replace R2:=kbR R2 Bg5 kb;replace R3:=kbR R3 Bg5 kb;replace R4:=kbR R4 Bg5 kb;replace Bg2:=kbB Bg2 (Ng2_g5.out) kb;replace Bg3:=kbB Bg3 (Ng3_g5.out) kb;replace Bg4:=kbB Bg4 (Ng4_g5.out) kb;replace Bg5:=am b1;replace HB:=am HB1;clear b1 HB1 kb;clear zg2 fg2 zg3 fg3 zg4 fg4 zg5 fg5;obtain ⟨zg2,fg2⟩:=cf1 Bg2.out;obtain ⟨zg3,fg3⟩:=cf1 Bg3.out;obtain ⟨zg4,fg4⟩:=cf1 Bg4.out;obtain ⟨zg5,fg5⟩:=cf1 Bg5.out))
 refine bodyPost_ret (results_cct rfl _ _ g4 g5 32 32 #[.slice A3 (ND.digs (x / y)).length c3] #[.slice A4 (ND.digs (x % y)).length c4] (0,0) (0,0) _ _ rfl Bg4.out Tryz.underlying32 rfl (by kernel_rfl) rfl Bg5.out Tryz.underlying32 rfl (by kernel_rfl)) rfl ?_
 exact ⟨_,_,_,_,rfl,R3.out,HB.out⟩
theorem ref02_Div.calls (A B:Option Addr) (c d:Nat) (x y:Nat) (w:World) (ha:CI w A (ND.digs x)) (hac:(ND.digs x).length ≤ c) (hb:CI w B (ND.digs y)) (hbd:(ND.digs y).length ≤ d) (hy:0 < y) (lx:(ND.digs x).length ≤ 200) (ly:(ND.digs y).length ≤ 200) :
  Calls Tryz.prog 101 #[.agg #[.slice A (ND.digs x).length c],.agg #[.slice B (ND.digs y).length d]] w fun e w' => ∃ A1 c1 A2 c2,e = .returned (.tuple #[.agg #[.slice A1 (ND.digs (x / y)).length c1],.agg #[.slice A2 (ND.digs (x % y)).length c2],.int .i64 0]) ∧ RI w' w (.slice A1 (ND.digs (x / y)).length c1) (ND.digs (x / y)) ∧ Below w.heap.size w w':=by
 have hu32:=Tryz.underlying32
 have HA:=am ha
 have HC:=am hb
 have LX:=am lx
 have LY:=am ly
 have HB:=am (Below.refl w.heap.size w)
 have hz:¬ (ND.digs y).length = 0:=fun e => by have:=List.length_eq_zero_iff.1 e;have h2:=ND.val_digs y;rw [this] at h2;have h3:(0:Nat) = y:=h2;omega
 have HD:=am (fun (W:World) (h1:CI W A (ND.digs x)) (h2:CI W B (ND.digs y)) => ref02_divide.calls A B c d (ND.digs x) (ND.digs y) W h1 hac h2 hbd (ND.ok_digs x) (ND.ok_digs y) (by rw [ND.val_digs];exact hy) (by omega) (by omega))
 rw [ND.val_digs,ND.val_digs] at HD
 clear ha hb lx ly hac hbd
 go_enter Tryz.func101,Tryz.ntmps101
 go_wp2_with (first
  | ((with_reducible refine gate_dst (N:=2) rfl ?_);refine bxe 2 #[.slice A (ND.digs x).length c] 32 ?_;intro g2 eg wg2 b1 hb;have Gg2:Aside0 (w.heap.size ≤ g2):=szl eg (h:=HB.out);have Bg2:=am b1;replace HB:=bst hb (h:=HB.out);clear hb b1 eg;obtain ⟨zg2,fg2⟩:=cf1 Bg2.out)
  | ((with_reducible refine gate_dst (N:=3) rfl ?_);refine bxe 3 #[.slice B (ND.digs y).length d] 32 ?_;intro g3 eg wg3 b1 hb;have Gg3:Aside0 (w.heap.size ≤ g3):=szl eg (h:=HB.out);have Ng2_g3:=nel g2 eg (Bg2.out);replace Bg2:=bbl g2 hb;have Bg3:=am b1;replace HB:=bst hb (h:=HB.out);clear hb b1 eg;clear zg2 fg2;obtain ⟨zg2,fg2⟩:=cf1 Bg2.out;obtain ⟨zg3,fg3⟩:=cf1 Bg3.out)
  | ((with_reducible refine gate_dst (N:=4) rfl ?_);refine bxe 4 #[.slice none 0 0] 32 ?_;intro g4 eg wg4 b1 hb;have Gg4:Aside0 (w.heap.size ≤ g4):=szl eg (h:=HB.out);have Ng2_g4:=nel g2 eg (Bg2.out);have Ng3_g4:=nel g3 eg (Bg3.out);replace Bg2:=bbl g2 hb;replace Bg3:=bbl g3 hb;have Bg4:=am b1;replace HB:=bst hb (h:=HB.out);clear hb b1 eg;clear zg2 fg2 zg3 fg3;obtain ⟨zg2,fg2⟩:=cf1 Bg2.out;obtain ⟨zg3,fg3⟩:=cf1 Bg3.out;obtain ⟨zg4,fg4⟩:=cf1 Bg4.out)
  | ((with_reducible refine gate_dst (N:=5) rfl ?_);refine bxe 5 #[.slice none 0 0] 32 ?_;intro g5 eg wg5 b1 hb;have Gg5:Aside0 (w.heap.size ≤ g5):=szl eg (h:=HB.out);have Ng2_g5:=nel g2 eg (Bg2.out);have Ng3_g5:=nel g3 eg (Bg3.out);have Ng4_g5:=nel g4 eg (Bg4.out);replace Bg2:=bbl g2 hb;replace Bg3:=bbl g3 hb;replace Bg4:=bbl g4 hb;have Bg5:=am b1;replace HB:=bst hb (h:=HB.out);clear hb b1 eg;clear zg2 fg2 zg3 fg3 zg4 fg4;obtain ⟨zg2,fg2⟩:=cf1 Bg2.out;obtain ⟨zg3,fg3⟩:=cf1 Bg3.out;obtain ⟨zg4,fg4⟩:=cf1 Bg4.out;obtain ⟨zg5,fg5⟩:=cf1 Bg5.out)
  | (go_at_call 180;(with_reducible refine (ref02_Valid.calls A c x _ (Kd.C_below HA.out HB.out) LX.out).mono ?_);rintro e wc4 ⟨rfl,hb⟩;replace Bg2:=bbl g2 hb;replace Bg3:=bbl g3 hb;replace Bg4:=bbl g4 hb;replace Bg5:=bbl g5 hb;replace HB:=bst hb (h:=HB.out);clear hb;clear zg2 fg2 zg3 fg3 zg4 fg4 zg5 fg5;obtain ⟨zg2,fg2⟩:=cf1 Bg2.out;obtain ⟨zg3,fg3⟩:=cf1 Bg3.out;obtain ⟨zg4,fg4⟩:=cf1 Bg4.out;obtain ⟨zg5,fg5⟩:=cf1 Bg5.out)
  | (go_at_call 180;(with_reducible refine (ref02_Valid.calls B d y _ (Kd.C_below HC.out HB.out) LY.out).mono ?_);rintro e wc5 ⟨rfl,hb⟩;replace Bg2:=bbl g2 hb;replace Bg3:=bbl g3 hb;replace Bg4:=bbl g4 hb;replace Bg5:=bbl g5 hb;replace HB:=bst hb (h:=HB.out);clear hb;clear zg2 fg2 zg3 fg3 zg4 fg4 zg5 fg5;obtain ⟨zg2,fg2⟩:=cf1 Bg2.out;obtain ⟨zg3,fg3⟩:=cf1 Bg3.out;obtain ⟨zg4,fg4⟩:=cf1 Bg4.out;obtain ⟨zg5,fg5⟩:=cf1 Bg5.out)
  | (go_at_call 185;(with_reducible refine (HD.out _ (Kd.C_below HA.out HB.out) (Kd.C_below HC.out HB.out)).mono ?_);rintro e wc6 ⟨A1,c1,A2,c2,rfl,R1,R2,hb⟩;replace Bg2:=bbl g2 hb;replace Bg3:=bbl g3 hb;replace Bg4:=bbl g4 hb;replace Bg5:=bbl g5 hb;replace R1:=rlo R1 (h:=HB.out);replace R2:=rlo R2 (h:=HB.out);replace HB:=bst hb (h:=HB.out);clear hb;clear zg2 fg2 zg3 fg3 zg4 fg4 zg5 fg5;obtain ⟨zg2,fg2⟩:=cf1 Bg2.out;obtain ⟨zg3,fg3⟩:=cf1 Bg3.out;obtain ⟨zg4,fg4⟩:=cf1 Bg4.out;obtain ⟨zg5,fg5⟩:=cf1 Bg5.out)
  | (refine gate_ (.store 32 (.tmp 4) (.tmp 34)) rfl ?_;refine stB 4 _ Bg4 Gg4 ?_ (HB:=HB.out);intro ws7 b1 HB1 kb;replace R1:=kbR R1 Bg4 kb;replace R2:=kbR R2 Bg4 kb;replace Bg2:=kbB Bg2 (Ng2_g4.out) kb;replace Bg3:=kbB Bg3 (Ng3_g4.out) kb;replace Bg5:=kbB Bg5 (Ng4_g5.out.symm) kb;replace Bg4:=am b1;replace HB:=am HB1;clear b1 HB1 kb;clear zg2 fg2 zg3 fg3 zg4 fg4 zg5 fg5;obtain ⟨zg2,fg2⟩:=cf1 Bg2.out;obtain ⟨zg3,fg3⟩:=cf1 Bg3.out;obtain ⟨zg4,fg4⟩:=cf1 Bg4.out;obtain ⟨zg5,fg5⟩:=cf1 Bg5.out)
  | (refine gate_ (.store 32 (.tmp 5) (.tmp 36)) rfl ?_;refine stB 5 _ Bg5 Gg5 ?_ (HB:=HB.out);intro ws8 b1 HB1 kb;replace R1:=kbR R1 Bg5 kb;replace R2:=kbR R2 Bg5 kb;replace Bg2:=kbB Bg2 (Ng2_g5.out) kb;replace Bg3:=kbB Bg3 (Ng3_g5.out) kb;replace Bg4:=kbB Bg4 (Ng4_g5.out) kb;replace Bg5:=am b1;replace HB:=am HB1;clear b1 HB1 kb;clear zg2 fg2 zg3 fg3 zg4 fg4 zg5 fg5;obtain ⟨zg2,fg2⟩:=cf1 Bg2.out;obtain ⟨zg3,fg3⟩:=cf1 Bg3.out;obtain ⟨zg4,fg4⟩:=cf1 Bg4.out;obtain ⟨zg5,fg5⟩:=cf1 Bg5.out))
 refine bodyPost_ret (results_cct rfl _ _ g4 g5 32 32 #[.slice A1 (ND.digs (x / y)).length c1] #[.slice A2 (ND.digs (x % y)).length c2] (0,0) (0,0) _ _ rfl Bg4.out Tryz.underlying32 rfl (by kernel_rfl) rfl Bg5.out Tryz.underlying32 rfl (by kernel_rfl)) rfl ?_
 exact ⟨_,_,_,_,rfl,R1.out,HB.out⟩
def T149_3:Bool × List (List Nat × List Nat):=(true,[([],[]),([0],[0]),([1],[1]),([],[]),([3],[3]),([4,2],[4]),([2,5,0,1,2],[2]),([5,6,0,1,2,3,4,5,6],[5])])
def B149_3:List Nat:=[0,1,3,0,8,31,63,127]
theorem t149_3:rtab .any (opsOf Tryz.f113 3) = T149_3:=by kernel_rfl
theorem w149_3:waitsOk T149_3.2 B149_3 = true:=by kernel_rfl
theorem natural_Gcd.calls (A B:Option Addr) (c d:Nat) (x y:Nat) (w:World) (ha:CI w A (ND.digs x)) (hac:(ND.digs x).length ≤ c) (hb:CI w B (ND.digs y)) (hbd:(ND.digs y).length ≤ d) (lx:(ND.digs x).length ≤ 200) (ly:(ND.digs y).length ≤ 200) :
  Calls Tryz.prog 113 #[.agg #[.slice A (ND.digs x).length c],.agg #[.slice B (ND.digs y).length d]] w fun e w' => ∃ A1 c1,e = .returned (.tuple #[.agg #[.slice A1 (ND.digs (Nat.gcd x y)).length c1],.int .i64 0]) ∧ RI w' w (.slice A1 (ND.digs (Nat.gcd x y)).length c1) (ND.digs (Nat.gcd x y)) ∧ Below w.heap.size w w':=by
 have hu32:=Tryz.underlying32
 have HA:=am ha
 have HC:=am hb
 have HAC:=am hac
 have HBD:=am hbd
 have LX:=am lx
 have LY:=am ly
 have HB:=am (Below.refl w.heap.size w)
 clear ha hb lx ly hac hbd
 go_enter Tryz.func113,Tryz.ntmps113
 go_wp2_with (first
  | ((with_reducible refine gate_dst (N:=2) rfl ?_);refine bxe 2 #[.slice A (ND.digs x).length c] 32 ?_;intro g2 eg wg2 b1 hb;have Gg2:Aside0 (w.heap.size ≤ g2):=szl eg (h:=HB.out);have Bg2:=am b1;replace HB:=bst hb (h:=HB.out);clear hb b1 eg;obtain ⟨zg2,fg2⟩:=cf1 Bg2.out)
  | ((with_reducible refine gate_dst (N:=3) rfl ?_);refine bxe 3 #[.slice B (ND.digs y).length d] 32 ?_;intro g3 eg wg3 b1 hb;have Gg3:Aside0 (w.heap.size ≤ g3):=szl eg (h:=HB.out);have Ng2_g3:=nel g2 eg (Bg2.out);replace Bg2:=bbl g2 hb;have Bg3:=am b1;replace HB:=bst hb (h:=HB.out);clear hb b1 eg;clear zg2 fg2;obtain ⟨zg2,fg2⟩:=cf1 Bg2.out;obtain ⟨zg3,fg3⟩:=cf1 Bg3.out)
  | ((with_reducible refine gate_dst (N:=4) rfl ?_);refine bxe 4 #[.slice none 0 0] 32 ?_;intro g4 eg wg4 b1 hb;have Gg4:Aside0 (w.heap.size ≤ g4):=szl eg (h:=HB.out);have Ng2_g4:=nel g2 eg (Bg2.out);have Ng3_g4:=nel g3 eg (Bg3.out);replace Bg2:=bbl g2 hb;replace Bg3:=bbl g3 hb;have Bg4:=am b1;replace HB:=bst hb (h:=HB.out);clear hb b1 eg;clear zg2 fg2 zg3 fg3;obtain ⟨zg2,fg2⟩:=cf1 Bg2.out;obtain ⟨zg3,fg3⟩:=cf1 Bg3.out;obtain ⟨zg4,fg4⟩:=cf1 Bg4.out)
  | (go_at_call 193;(with_reducible refine (natural_Valid.calls A c x _ (Kd.C_below HA.out HB.out) LX.out).mono ?_);rintro e wc3 ⟨rfl,hb⟩;replace Bg2:=bbl g2 hb;replace Bg3:=bbl g3 hb;replace Bg4:=bbl g4 hb;replace HB:=bst hb (h:=HB.out);clear hb;clear zg2 fg2 zg3 fg3 zg4 fg4;obtain ⟨zg2,fg2⟩:=cf1 Bg2.out;obtain ⟨zg3,fg3⟩:=cf1 Bg3.out;obtain ⟨zg4,fg4⟩:=cf1 Bg4.out)
  | (go_at_call 193;(with_reducible refine (natural_Valid.calls B d y _ (Kd.C_below HC.out HB.out) LY.out).mono ?_);rintro e wc4 ⟨rfl,hb⟩;replace Bg2:=bbl g2 hb;replace Bg3:=bbl g3 hb;replace Bg4:=bbl g4 hb;replace HB:=bst hb (h:=HB.out);clear hb;clear zg2 fg2 zg3 fg3 zg4 fg4;obtain ⟨zg2,fg2⟩:=cf1 Bg2.out;obtain ⟨zg3,fg3⟩:=cf1 Bg3.out;obtain ⟨zg4,fg4⟩:=cf1 Bg4.out))
 clear zg2 fg2 zg3 fg3 zg4 fg4
 refine stt 8 (fun w' => w'.cell? ⟨g2,0,none⟩ = some (.slice A (ND.digs x).length c) ∧ w'.cell? ⟨g3,0,none⟩ = some (.slice B (ND.digs y).length d)) [] _ _ t149_3 w149_3 ⟨hc 0 Bg2.out,hc 0 Bg3.out⟩ fun w0 hb hS HT HW => ?_
 replace Bg2:=bbl g2 hb (h:=Bg2.out)
 replace Bg3:=bbl g3 hb (h:=Bg3.out)
 replace Bg4:=bbl g4 hb (h:=Bg4.out)
 replace HB:=bst hb (h:=HB.out)
 clear hb
 refine pu 0 ?_
 refine tk 1 ?_
 refine pu 3 ?_
 refine tk 4 ?_
 refine cal 2 Tryz.func26 #[.slice A (ND.digs x).length c] ?_
 refine (slices_Clone_int_int.calls A c (ND.digs x) (ND.digs x) w0 (Kd.C_below HA.out HB.out) HAC.out (if_pos (by have:=LX.out;omega))).mono ?_
 rintro e w5 ⟨v,rfl,R6,hb⟩
 replace R6:=rlo R6 (h:=HB.out)
 replace Bg2:=bbl g2 hb (h:=Bg2.out)
 replace Bg3:=bbl g3 hb (h:=Bg3.out)
 replace Bg4:=bbl g4 hb (h:=Bg4.out)
 replace HB:=bst hb (h:=HB.out)
 obtain ⟨A6,c6,rfl⟩:=Kd.R_slice R6.out
 clear hb hS
 refine ⟨_,rfl,⟨hc 0 Bg2.out,hc 0 Bg3.out⟩,fun hS => nrm ?_⟩
 refine cal 5 Tryz.func26 #[.slice B (ND.digs y).length d] ?_
 refine (slices_Clone_int_int.calls B d (ND.digs y) (ND.digs y) w5 (Kd.C_below HC.out HB.out) HBD.out (if_pos (by have:=LY.out;omega))).mono ?_
 rintro e w6 ⟨v,rfl,R7,hb⟩
 replace R7:=rlo R7 (h:=HB.out)
 replace R6:=rbl R6 hb
 replace Bg2:=bbl g2 hb (h:=Bg2.out)
 replace Bg3:=bbl g3 hb (h:=Bg3.out)
 replace Bg4:=bbl g4 hb (h:=Bg4.out)
 replace HB:=bst hb (h:=HB.out)
 obtain ⟨A7,c7,rfl⟩:=Kd.R_slice R7.out
 clear hb hS
 refine ⟨_,rfl,⟨hc 0 Bg2.out,hc 0 Bg3.out⟩,fun hS => nrm ?_⟩
 clear hS
 refine pu 6 ?_
 refine pu 7 ?_
 refine dne ?_
 clear HT HW Bg2 Bg3
 go_wp2
 go_loopg [6,7] y (fun k v6 v7 w' => ∃ (X Y:Nat) (A6:Option Addr) (c6:Nat) (A7:Option Addr) (c7:Nat),v6 = .slice A6 (ND.digs X).length c6 ∧ v7 = .slice A7 (ND.digs Y).length c7 ∧ Y ≤ k ∧ Aside0 (RI w' w (.slice A6 (ND.digs X).length c6) (ND.digs X)) ∧ Aside0 (RI w' w (.slice A7 (ND.digs Y).length c7) (ND.digs Y)) ∧ Aside0 (Below w.heap.size w w') ∧ Aside0 (w'.heap[g4]? = some (.cells #[.slice none 0 0] 32 (0,0))) ∧ Aside0 (Nat.gcd X Y = Nat.gcd x y) ∧ Aside0 ((ND.digs X).length ≤ 200) ∧ Aside0 ((ND.digs Y).length ≤ 200))
 case atStart => exact ⟨x,y,A6,c6,A7,c7,rfl,rfl,Nat.le_refl _,R6,R7,HB,Bg4,⟨rfl⟩,LX,LY⟩
 case round =>
  obtain ⟨X,Y,A6,c6,A7,c7,rfl,rfl,h1,R6,R7,HB2,B4,HG,L6,L7⟩:=hrel
  replace HB:=HB2
  clear HB2 Bg4
  by_cases hY:Y = 0
  ·subst hY
   rw [ND.digs0] at *
   have hX:X = Nat.gcd x y:=by have:=HG.out;rwa [Nat.gcd_zero_right] at this
   subst hX
   obtain ⟨z0,f0⟩:=cf1 B4.out
   go_wp2_with (go_at_call 195;(with_reducible refine (natural_ofd.calls A6 c6 (Nat.gcd x y) w _ R6.out HB.out).mono ?_);rintro e w7 ⟨A8,c8,rfl,R8,hb⟩;replace B4:=bbl g4 hb (h:=B4.out);replace HB:=bst hb (h:=HB.out);replace R8:=am R8;clear hb z0 f0;obtain ⟨z0,f0⟩:=cf1 B4.out)
   refine bodyPost_ret (results_ct rfl _ _ g4 32 #[.slice A8 (ND.digs (Nat.gcd x y)).length c8] (0,0) _ rfl (set1 sb) Tryz.underlying32 rfl (by kernel_rfl)) rfl ?_
   exact ⟨A8,c8,rfl,rx,bel⟩
  ·have hz:0 < (ND.digs Y).length:=by
    rcases Nat.eq_zero_or_pos (ND.digs Y).length with e | e
    ·have e2:=List.length_eq_zero_iff.1 e
     have h2:=ND.val_digs Y
     rw [e2] at h2
     exact absurd h2.symm hY
    ·exact e
   have HD:=am (fun (W:World) (h1:CI W A6 (ND.digs X)) (h2:CI W A7 (ND.digs Y)) => natural_divide.calls A6 A7 c6 c7 (ND.digs X) (ND.digs Y) W h1 (rL R6) h2 (rL R7) (ND.ok_digs X) (ND.ok_digs Y) (by rw [ND.val_digs];omega) (by have:=L6.out;omega) (by have:=L7.out;omega))
   rw [ND.val_digs,ND.val_digs] at HD
   have hmod:X % Y < Y:=Nat.mod_lt _ (by omega)
   have LN:=am (Nat.le_trans (ND.digs_mono (Nat.le_of_lt hmod)) L7.out)
   have HGN:=am (show Nat.gcd Y (X % Y) = Nat.gcd x y by rw [← HG.out,Nat.gcd_comm X Y,Nat.gcd_rec Y X,Nat.gcd_comm])
   clear HG
   go_wp2_with (go_at_call 194;(with_reducible refine (HD.out _ (rC R6) (rC R7)).mono ?_);rintro e w7 ⟨A1,c1,A2,c2,rfl,R1,R2,hb⟩;replace R2:=rlo R2 (h:=HB.out);replace R7:=rbl R7 hb;replace B4:=bbl g4 hb (h:=B4.out);replace HB:=bst hb (h:=HB.out);clear hb HD R1 R6)
   go_roundg (X % Y)
   case measure => omega
   case rel => exact ⟨Y,X % Y,A7,c7,A2,c2,rfl,rfl,Nat.le_refl _,R7,R2,HB,B4,HGN,L7,LN⟩
end Go.Proofs.YtnbcnoabbdegpaaGreatDoor.V
