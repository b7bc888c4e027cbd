/- A part of the proof of the tied card of ProfileRate (chapter 53): the law returns true whatever the input. -/
import Derived.Test.YtnbcnoabbdegpaaGreatDoorZD5
set_option linter.unusedVariables false
set_option linter.unusedSimpArgs false
namespace Go.Proofs.YtnbcnoabbdegpaaGreatDoor.V
open Go.RowKit Go.Proofs.YtnbcnoabbdegpaaGreatDoorW.PrintWords Go.Proofs.YtnbcnoabbdegpaaGreatDoorW.PrintLast Go.Proofs.YtnbcnoabbdegpaaGreatDoorW.PrintMore
attribute [local go_sem] max2_int min2_int max_two min_two
set_option linter.unusedVariables false
set_option linter.unusedSimpArgs false
set_option maxHeartbeats 8000000
set_option maxRecDepth 100000
def RetF (w w':World) (e:Ending) (n m:Nat):Prop:=∃ A1 c1 A2 c2,e = .returned (.agg #[.bool false,.slice A1 (ND.digs n).length c1,.slice A2 (ND.digs m).length c2]) ∧ RI w' w (.slice A1 (ND.digs n).length c1) (ND.digs n) ∧ RI w' w (.slice A2 (ND.digs m).length c2) (ND.digs m) ∧ Below w.heap.size w w'
theorem set3 {w:World} {g:Nat} {t:TypeId} {a b c a' b' c':Value} (h:w.heap[g]? = some (.cells #[a,b,c] t (0,0))):(((w.setCell ⟨g,0,none⟩ a').setCell ⟨g,1,none⟩ b').setCell ⟨g,2,none⟩ c').heap[g]? = some (.cells #[a',b',c'] t (0,0)):=blk_put (blk_put (blk_put h 0 a' rfl) 1 b' rfl) 2 c' rfl
def T70_4:Bool × List (List Nat × List Nat):=(true,[([],[]),([0],[0]),([1],[1]),([2,1,1],[1,2]),([3,1],[1,3]),([1,4],[1,4]),([],[]),([],[]),([5,6,7],[5,6,7]),([8,3,0,1,2,3,4,5,6,7,8],[8])])
def B70_4:List Nat:=[0,1,3,7,15,31,0,0,255,511]
theorem t70_4:rtab .any (opsOf Tryz.f52 4) = T70_4:=by kernel_rfl
theorem w70_4:waitsOk T70_4.2 B70_4 = true:=by kernel_rfl
theorem fraction_reduce.calls (A B:Option Addr) (c d:Nat) (x y:Nat) (w:World) (ha:CI w A (ND.digs x)) (hac:(ND.digs x).length ≤ c) (hb:CI w B (ND.digs y)) (hbd:(ND.digs y).length ≤ d) (hy:0 < y) (lx:(ND.digs x).length ≤ 200) (ly:(ND.digs y).length ≤ 200) :
  Calls Tryz.prog 52 #[.bool false,.agg #[.slice A (ND.digs x).length c],.agg #[.slice B (ND.digs y).length d]] w fun e w' => RetF w w' e (x / Nat.gcd x y) (y / Nat.gcd x y):=by
 have hu32:=Tryz.underlying32
 have hu34:=Tryz.underlying34
 have HA:=am ha
 have HC:=am hb
 have HB:=am (Below.refl w.heap.size w)
 have hg:0 < Nat.gcd x y:=Nat.gcd_pos_of_pos_right x hy
 have hlg:(ND.digs (Nat.gcd x y)).length ≤ 200:=Nat.le_trans (ND.digs_mono (Nat.gcd_le_right x hy)) ly
 have HG:=am (fun (W:World) (h1:CI W A (ND.digs x)) (h2:CI W B (ND.digs y)) => natural_Gcd.calls A B c d x y W h1 hac h2 hbd lx ly)
 have HX:=am (fun (AG:Option Addr) (cG:Nat) (W:World) (h1:CI W A (ND.digs x)) (h2:CI W AG (ND.digs (Nat.gcd x y))) (hc:(ND.digs (Nat.gcd x y)).length ≤ cG) => natural_Div.calls A AG c cG x (Nat.gcd x y) W h1 hac h2 hc hg lx hlg)
 have HY:=am (fun (AG:Option Addr) (cG:Nat) (W:World) (h1:CI W B (ND.digs y)) (h2:CI W AG (ND.digs (Nat.gcd x y))) (hc:(ND.digs (Nat.gcd x y)).length ≤ cG) => natural_Div.calls B AG d cG y (Nat.gcd x y) W h1 hbd h2 hc hg ly hlg)
 clear ha hb lx ly hac hbd hy hg hlg
 generalize Nat.gcd x y = G at *
 go_enter Tryz.func52,Tryz.ntmps52
 go_wp2_with (first
  | ((with_reducible refine gate_dst (N:=4) rfl ?_);refine bxe 4 #[.slice A (ND.digs x).length c] 32 ?_;intro g4 eg wg4 b1 hb;have Gg4:Aside0 (w.heap.size ≤ g4):=szl eg (h:=HB.out);have Bg4:=am b1;replace HB:=bst hb (h:=HB.out);clear hb b1 eg;obtain ⟨zg4,fg4⟩:=cf1 Bg4.out)
  | ((with_reducible refine gate_dst (N:=5) rfl ?_);refine bxe 5 #[.slice B (ND.digs y).length d] 32 ?_;intro g5 eg wg5 b1 hb;have Gg5:Aside0 (w.heap.size ≤ g5):=szl eg (h:=HB.out);have Ng4_g5:=nel g4 eg (Bg4.out);replace Bg4:=bbl g4 hb;have Bg5:=am b1;replace HB:=bst hb (h:=HB.out);clear hb b1 eg;clear zg4 fg4;obtain ⟨zg4,fg4⟩:=cf1 Bg4.out;obtain ⟨zg5,fg5⟩:=cf1 Bg5.out)
  | ((with_reducible refine gate_dst (N:=6) rfl ?_);refine bxe 6 #[.bool false,.slice none 0 0,.slice none 0 0] 34 ?_;intro g6 eg wg6 b1 hb;have Gg6:Aside0 (w.heap.size ≤ g6):=szl eg (h:=HB.out);have Ng4_g6:=nel g4 eg (Bg4.out);have Ng5_g6:=nel g5 eg (Bg5.out);replace Bg4:=bbl g4 hb;replace Bg5:=bbl g5 hb;have Bg6:=am b1;replace HB:=bst hb (h:=HB.out);clear hb b1 eg;clear zg4 fg4 zg5 fg5;obtain ⟨zg4,fg4⟩:=cf1 Bg4.out;obtain ⟨zg5,fg5⟩:=cf1 Bg5.out;obtain ⟨zg6,fg6⟩:=cf3 Bg6.out)
  | (go_at_call 113;(with_reducible refine (HG.out _ (Kd.C_below HA.out HB.out) (Kd.C_below HC.out HB.out)).mono ?_);rintro e wc3 ⟨AG,cG,rfl,RG,hb⟩;replace Bg4:=bbl g4 hb;replace Bg5:=bbl g5 hb;replace Bg6:=bbl g6 hb;replace RG:=rlo RG (h:=HB.out);replace HB:=bst hb (h:=HB.out);clear hb;clear zg4 fg4 zg5 fg5 zg6 fg6;obtain ⟨zg4,fg4⟩:=cf1 Bg4.out;obtain ⟨zg5,fg5⟩:=cf1 Bg5.out;obtain ⟨zg6,fg6⟩:=cf3 Bg6.out)
  | ((with_reducible refine gate_dst (N:=7) rfl ?_);refine bxe 7 #[.slice none 0 0] 32 ?_;intro g7 eg wg7 b1 hb;have Gg7:Aside0 (w.heap.size ≤ g7):=szl eg (h:=HB.out);have Ng4_g7:=nel g4 eg (Bg4.out);have Ng5_g7:=nel g5 eg (Bg5.out);have Ng6_g7:=nel g6 eg (Bg6.out);replace Bg4:=bbl g4 hb;replace Bg5:=bbl g5 hb;replace Bg6:=bbl g6 hb;replace RG:=rbl RG hb;have Bg7:=am b1;replace HB:=bst hb (h:=HB.out);clear hb b1 eg;clear zg4 fg4 zg5 fg5 zg6 fg6;obtain ⟨zg4,fg4⟩:=cf1 Bg4.out;obtain ⟨zg5,fg5⟩:=cf1 Bg5.out;obtain ⟨zg6,fg6⟩:=cf3 Bg6.out;obtain ⟨zg7,fg7⟩:=cf1 Bg7.out)
  | (refine gate_ (.store 32 (.tmp 7) (.tmp 19)) rfl ?_;refine stB 7 _ Bg7 Gg7 ?_ (HB:=HB.out);intro ws5 b1 HB1 kb;replace RG:=kbR RG Bg7 kb;replace Bg4:=kbB Bg4 (Ng4_g7.out) kb;replace Bg5:=kbB Bg5 (Ng5_g7.out) kb;replace Bg6:=kbB Bg6 (Ng6_g7.out) kb;replace Bg7:=am b1;replace HB:=am HB1;clear b1 HB1 kb;clear zg4 fg4 zg5 fg5 zg6 fg6 zg7 fg7;obtain ⟨zg4,fg4⟩:=cf1 Bg4.out;obtain ⟨zg5,fg5⟩:=cf1 Bg5.out;obtain ⟨zg6,fg6⟩:=cf3 Bg6.out;obtain ⟨zg7,fg7⟩:=cf1 Bg7.out)
  | (go_at_call 114;(with_reducible refine (HX.out AG cG _ (Kd.C_below HA.out HB.out) (rC RG) (rL RG)).mono ?_);rintro e wc6 ⟨A1,c1,A2,c2,rfl,R1,hb⟩;replace Bg4:=bbl g4 hb;replace Bg5:=bbl g5 hb;replace Bg6:=bbl g6 hb;replace Bg7:=bbl g7 hb;replace RG:=rbl RG hb;replace R1:=rlo R1 (h:=HB.out);replace HB:=bst hb (h:=HB.out);clear hb HX;clear zg4 fg4 zg5 fg5 zg6 fg6 zg7 fg7;obtain ⟨zg4,fg4⟩:=cf1 Bg4.out;obtain ⟨zg5,fg5⟩:=cf1 Bg5.out;obtain ⟨zg6,fg6⟩:=cf3 Bg6.out;obtain ⟨zg7,fg7⟩:=cf1 Bg7.out)
  | ((with_reducible refine gate_dst (N:=9) rfl ?_);refine bxe 9 #[.slice none 0 0] 32 ?_;intro g9 eg wg9 b1 hb;have Gg9:Aside0 (w.heap.size ≤ g9):=szl eg (h:=HB.out);have Ng4_g9:=nel g4 eg (Bg4.out);have Ng5_g9:=nel g5 eg (Bg5.out);have Ng6_g9:=nel g6 eg (Bg6.out);have Ng7_g9:=nel g7 eg (Bg7.out);replace Bg4:=bbl g4 hb;replace Bg5:=bbl g5 hb;replace Bg6:=bbl g6 hb;replace Bg7:=bbl g7 hb;replace RG:=rbl RG hb;replace R1:=rbl R1 hb;have Bg9:=am b1;replace HB:=bst hb (h:=HB.out);clear hb b1 eg;clear zg4 fg4 zg5 fg5 zg6 fg6 zg7 fg7;obtain ⟨zg4,fg4⟩:=cf1 Bg4.out;obtain ⟨zg5,fg5⟩:=cf1 Bg5.out;obtain ⟨zg6,fg6⟩:=cf3 Bg6.out;obtain ⟨zg7,fg7⟩:=cf1 Bg7.out;obtain ⟨zg9,fg9⟩:=cf1 Bg9.out)
  | ((with_reducible refine gate_dst (N:=10) rfl ?_);refine bxe 10 #[.slice none 0 0] 32 ?_;intro g10 eg wg10 b1 hb;have Gg10:Aside0 (w.heap.size ≤ g10):=szl eg (h:=HB.out);have Ng4_g10:=nel g4 eg (Bg4.out);have Ng5_g10:=nel g5 eg (Bg5.out);have Ng6_g10:=nel g6 eg (Bg6.out);have Ng7_g10:=nel g7 eg (Bg7.out);have Ng9_g10:=nel g9 eg (Bg9.out);replace Bg4:=bbl g4 hb;replace Bg5:=bbl g5 hb;replace Bg6:=bbl g6 hb;replace Bg7:=bbl g7 hb;replace Bg9:=bbl g9 hb;replace RG:=rbl RG hb;replace R1:=rbl R1 hb;have Bg10:=am b1;replace HB:=bst hb (h:=HB.out);clear hb b1 eg;clear zg4 fg4 zg5 fg5 zg6 fg6 zg7 fg7 zg9 fg9;obtain ⟨zg4,fg4⟩:=cf1 Bg4.out;obtain ⟨zg5,fg5⟩:=cf1 Bg5.out;obtain ⟨zg6,fg6⟩:=cf3 Bg6.out;obtain ⟨zg7,fg7⟩:=cf1 Bg7.out;obtain ⟨zg9,fg9⟩:=cf1 Bg9.out;obtain ⟨zg10,fg10⟩:=cf1 Bg10.out)
  | (refine gate_ (.store 32 (.tmp 9) (.tmp 25)) rfl ?_;refine stB 9 _ Bg9 Gg9 ?_ (HB:=HB.out);intro ws9 b1 HB1 kb;replace RG:=kbR RG Bg9 kb;replace R1:=kbR R1 Bg9 kb;replace Bg4:=kbB Bg4 (Ng4_g9.out) kb;replace Bg5:=kbB Bg5 (Ng5_g9.out) kb;replace Bg6:=kbB Bg6 (Ng6_g9.out) kb;replace Bg7:=kbB Bg7 (Ng7_g9.out) kb;replace Bg10:=kbB Bg10 (Ng9_g10.out.symm) kb;replace Bg9:=am b1;replace HB:=am HB1;clear b1 HB1 kb;clear zg4 fg4 zg5 fg5 zg6 fg6 zg7 fg7 zg9 fg9 zg10 fg10;obtain ⟨zg4,fg4⟩:=cf1 Bg4.out;obtain ⟨zg5,fg5⟩:=cf1 Bg5.out;obtain ⟨zg6,fg6⟩:=cf3 Bg6.out;obtain ⟨zg7,fg7⟩:=cf1 Bg7.out;obtain ⟨zg9,fg9⟩:=cf1 Bg9.out;obtain ⟨zg10,fg10⟩:=cf1 Bg10.out)
  | (refine gate_ (.store 32 (.tmp 10) (.tmp 26)) rfl ?_;refine stB 10 _ Bg10 Gg10 ?_ (HB:=HB.out);intro ws10 b1 HB1 kb;replace RG:=kbR RG Bg10 kb;replace R1:=kbR R1 Bg10 kb;replace Bg4:=kbB Bg4 (Ng4_g10.out) kb;replace Bg5:=kbB Bg5 (Ng5_g10.out) kb;replace Bg6:=kbB Bg6 (Ng6_g10.out) kb;replace Bg7:=kbB Bg7 (Ng7_g10.out) kb;replace Bg9:=kbB Bg9 (Ng9_g10.out) kb;replace Bg10:=am b1;replace HB:=am HB1;clear b1 HB1 kb;clear zg4 fg4 zg5 fg5 zg6 fg6 zg7 fg7 zg9 fg9 zg10 fg10;obtain ⟨zg4,fg4⟩:=cf1 Bg4.out;obtain ⟨zg5,fg5⟩:=cf1 Bg5.out;obtain ⟨zg6,fg6⟩:=cf3 Bg6.out;obtain ⟨zg7,fg7⟩:=cf1 Bg7.out;obtain ⟨zg9,fg9⟩:=cf1 Bg9.out;obtain ⟨zg10,fg10⟩:=cf1 Bg10.out)
  | (go_at_call 114;(with_reducible refine (HY.out AG cG _ (Kd.C_below HC.out HB.out) (rC RG) (rL RG)).mono ?_);rintro e wc11 ⟨A3,c3,A4,c4,rfl,R3,hb⟩;replace Bg4:=bbl g4 hb;replace Bg5:=bbl g5 hb;replace Bg6:=bbl g6 hb;replace Bg7:=bbl g7 hb;replace Bg9:=bbl g9 hb;replace Bg10:=bbl g10 hb;replace RG:=rbl RG hb;replace R1:=rbl R1 hb;replace R3:=rlo R3 (h:=HB.out);replace HB:=bst hb (h:=HB.out);clear hb HY;clear zg4 fg4 zg5 fg5 zg6 fg6 zg7 fg7 zg9 fg9 zg10 fg10;obtain ⟨zg4,fg4⟩:=cf1 Bg4.out;obtain ⟨zg5,fg5⟩:=cf1 Bg5.out;obtain ⟨zg6,fg6⟩:=cf3 Bg6.out;obtain ⟨zg7,fg7⟩:=cf1 Bg7.out;obtain ⟨zg9,fg9⟩:=cf1 Bg9.out;obtain ⟨zg10,fg10⟩:=cf1 Bg10.out)
  | ((with_reducible refine gate_dst (N:=12) rfl ?_);refine bxe 12 #[.slice none 0 0] 32 ?_;intro g12 eg wg12 b1 hb;have Gg12:Aside0 (w.heap.size ≤ g12):=szl eg (h:=HB.out);have Ng4_g12:=nel g4 eg (Bg4.out);have Ng5_g12:=nel g5 eg (Bg5.out);have Ng6_g12:=nel g6 eg (Bg6.out);have Ng7_g12:=nel g7 eg (Bg7.out);have Ng9_g12:=nel g9 eg (Bg9.out);have Ng10_g12:=nel g10 eg (Bg10.out);replace Bg4:=bbl g4 hb;replace Bg5:=bbl g5 hb;replace Bg6:=bbl g6 hb;replace Bg7:=bbl g7 hb;replace Bg9:=bbl g9 hb;replace Bg10:=bbl g10 hb;replace RG:=rbl RG hb;replace R1:=rbl R1 hb;replace R3:=rbl R3 hb;have Bg12:=am b1;replace HB:=bst hb (h:=HB.out);clear hb b1 eg;clear zg4 fg4 zg5 fg5 zg6 fg6 zg7 fg7 zg9 fg9 zg10 fg10;obtain ⟨zg4,fg4⟩:=cf1 Bg4.out;obtain ⟨zg5,fg5⟩:=cf1 Bg5.out;obtain ⟨zg6,fg6⟩:=cf3 Bg6.out;obtain ⟨zg7,fg7⟩:=cf1 Bg7.out;obtain ⟨zg9,fg9⟩:=cf1 Bg9.out;obtain ⟨zg10,fg10⟩:=cf1 Bg10.out;obtain ⟨zg12,fg12⟩:=cf1 Bg12.out)
  | ((with_reducible refine gate_dst (N:=13) rfl ?_);refine bxe 13 #[.slice none 0 0] 32 ?_;intro g13 eg wg13 b1 hb;have Gg13:Aside0 (w.heap.size ≤ g13):=szl eg (h:=HB.out);have Ng4_g13:=nel g4 eg (Bg4.out);have Ng5_g13:=nel g5 eg (Bg5.out);have Ng6_g13:=nel g6 eg (Bg6.out);have Ng7_g13:=nel g7 eg (Bg7.out);have Ng9_g13:=nel g9 eg (Bg9.out);have Ng10_g13:=nel g10 eg (Bg10.out);have Ng12_g13:=nel g12 eg (Bg12.out);replace Bg4:=bbl g4 hb;replace Bg5:=bbl g5 hb;replace Bg6:=bbl g6 hb;replace Bg7:=bbl g7 hb;replace Bg9:=bbl g9 hb;replace Bg10:=bbl g10 hb;replace Bg12:=bbl g12 hb;replace RG:=rbl RG hb;replace R1:=rbl R1 hb;replace R3:=rbl R3 hb;have Bg13:=am b1;replace HB:=bst hb (h:=HB.out);clear hb b1 eg;clear zg4 fg4 zg5 fg5 zg6 fg6 zg7 fg7 zg9 fg9 zg10 fg10 zg12 fg12;obtain ⟨zg4,fg4⟩:=cf1 Bg4.out;obtain ⟨zg5,fg5⟩:=cf1 Bg5.out;obtain ⟨zg6,fg6⟩:=cf3 Bg6.out;obtain ⟨zg7,fg7⟩:=cf1 Bg7.out;obtain ⟨zg9,fg9⟩:=cf1 Bg9.out;obtain ⟨zg10,fg10⟩:=cf1 Bg10.out;obtain ⟨zg12,fg12⟩:=cf1 Bg12.out;obtain ⟨zg13,fg13⟩:=cf1 Bg13.out)
  | (refine gate_ (.store 32 (.tmp 12) (.tmp 32)) rfl ?_;refine stB 12 _ Bg12 Gg12 ?_ (HB:=HB.out);intro ws14 b1 HB1 kb;replace RG:=kbR RG Bg12 kb;replace R1:=kbR R1 Bg12 kb;replace R3:=kbR R3 Bg12 kb;replace Bg4:=kbB Bg4 (Ng4_g12.out) kb;replace Bg5:=kbB Bg5 (Ng5_g12.out) kb;replace Bg6:=kbB Bg6 (Ng6_g12.out) kb;replace Bg7:=kbB Bg7 (Ng7_g12.out) kb;replace Bg9:=kbB Bg9 (Ng9_g12.out) kb;replace Bg10:=kbB Bg10 (Ng10_g12.out) kb;replace Bg13:=kbB Bg13 (Ng12_g13.out.symm) kb;replace Bg12:=am b1;replace HB:=am HB1;clear b1 HB1 kb;clear zg4 fg4 zg5 fg5 zg6 fg6 zg7 fg7 zg9 fg9 zg10 fg10 zg12 fg12 zg13 fg13;obtain ⟨zg4,fg4⟩:=cf1 Bg4.out;obtain ⟨zg5,fg5⟩:=cf1 Bg5.out;obtain ⟨zg6,fg6⟩:=cf3 Bg6.out;obtain ⟨zg7,fg7⟩:=cf1 Bg7.out;obtain ⟨zg9,fg9⟩:=cf1 Bg9.out;obtain ⟨zg10,fg10⟩:=cf1 Bg10.out;obtain ⟨zg12,fg12⟩:=cf1 Bg12.out;obtain ⟨zg13,fg13⟩:=cf1 Bg13.out)
  | (refine gate_ (.store 32 (.tmp 13) (.tmp 33)) rfl ?_;refine stB 13 _ Bg13 Gg13 ?_ (HB:=HB.out);intro ws15 b1 HB1 kb;replace RG:=kbR RG Bg13 kb;replace R1:=kbR R1 Bg13 kb;replace R3:=kbR R3 Bg13 kb;replace Bg4:=kbB Bg4 (Ng4_g13.out) kb;replace Bg5:=kbB Bg5 (Ng5_g13.out) kb;replace Bg6:=kbB Bg6 (Ng6_g13.out) kb;replace Bg7:=kbB Bg7 (Ng7_g13.out) kb;replace Bg9:=kbB Bg9 (Ng9_g13.out) kb;replace Bg10:=kbB Bg10 (Ng10_g13.out) kb;replace Bg12:=kbB Bg12 (Ng12_g13.out) kb;replace Bg13:=am b1;replace HB:=am HB1;clear b1 HB1 kb;clear zg4 fg4 zg5 fg5 zg6 fg6 zg7 fg7 zg9 fg9 zg10 fg10 zg12 fg12 zg13 fg13;obtain ⟨zg4,fg4⟩:=cf1 Bg4.out;obtain ⟨zg5,fg5⟩:=cf1 Bg5.out;obtain ⟨zg6,fg6⟩:=cf3 Bg6.out;obtain ⟨zg7,fg7⟩:=cf1 Bg7.out;obtain ⟨zg9,fg9⟩:=cf1 Bg9.out;obtain ⟨zg10,fg10⟩:=cf1 Bg10.out;obtain ⟨zg12,fg12⟩:=cf1 Bg12.out;obtain ⟨zg13,fg13⟩:=cf1 Bg13.out))
 clear zg4 fg4 zg5 fg5 zg6 fg6 zg7 fg7 zg9 fg9 zg10 fg10 zg12 fg12 zg13 fg13
 refine stt 10 (fun w' => w'.cell? ⟨g9,0,none⟩ = some (.slice A1 (ND.digs (x / G)).length c1) ∧ w'.cell? ⟨g12,0,none⟩ = some (.slice A3 (ND.digs (y / G)).length c3)) [9] _ _ t70_4 w70_4 ⟨hc 0 Bg9.out,hc 0 Bg12.out⟩ fun w0 hb hS HT HW => ?_
 replace R1:=rbl R1 hb
 replace R3:=rbl R3 hb
 replace Bg6:=bbl g6 hb (h:=Bg6.out)
 replace HB:=bst hb (h:=HB.out)
 clear hb
 obtain ⟨⟨z0,z1,z2⟩,f0,f1,f2⟩:=cf3 Bg6.out
 refine pu 0 ?_
 refine pu 1 ?_
 refine pu 2 ?_
 refine pu 3 ?_
 refine pu 4 ?_
 refine pu 5 ?_
 refine tk 6 ?_
 refine tk 7 ?_
 refine pu 8 ?_
 refine lst 9 ?_
 go_wp2
 refine bodyPost_ret (results_cell_row rfl _ _ g6 34 #[.bool false,.slice A1 (ND.digs (x / G)).length c1,.slice A3 (ND.digs (y / G)).length c3] (0,0) _ rfl (set3 sb) Tryz.underlying34 rfl (by kernel_rfl)) rfl ?_
 exact ⟨A1,c1,A3,c3,rfl,rx,rx,bel⟩
def T64_4:Bool × List (List Nat × List Nat):=(true,[([],[]),([0],[0]),([1],[1]),([2,1,1],[1,2]),([3,1],[1,3]),([1,4],[1,4]),([],[]),([],[]),([5,6,7],[5,6,7]),([8,3,0,1,2,3,4,5,6,7,8],[8])])
def B64_4:List Nat:=[0,1,3,7,15,31,0,0,255,511]
theorem t64_4:rtab .any (opsOf Tryz.f45 4) = T64_4:=by kernel_rfl
theorem w64_4:waitsOk T64_4.2 B64_4 = true:=by kernel_rfl
theorem ref03_lowest.calls (A B:Option Addr) (c d:Nat) (x y:Nat) (w:World) (ha:CI w A (ND.digs x)) (hac:(ND.digs x).length ≤ c) (hb:CI w B (ND.digs y)) (hbd:(ND.digs y).length ≤ d) (hy:0 < y) (lx:(ND.digs x).length ≤ 200) (ly:(ND.digs y).length ≤ 200) :
  Calls Tryz.prog 45 #[.bool false,.agg #[.slice A (ND.digs x).length c],.agg #[.slice B (ND.digs y).length d]] w fun e w' => RetF w w' e (x / Nat.gcd x y) (y / Nat.gcd x y):=by
 have hu32:=Tryz.underlying32
 have hu34:=Tryz.underlying34
 have HA:=am ha
 have HC:=am hb
 have HB:=am (Below.refl w.heap.size w)
 have hg:0 < Nat.gcd x y:=Nat.gcd_pos_of_pos_right x hy
 have hlg:(ND.digs (Nat.gcd x y)).length ≤ 200:=Nat.le_trans (ND.digs_mono (Nat.gcd_le_right x hy)) ly
 have HG:=am (fun (W:World) (h1:CI W A (ND.digs x)) (h2:CI W B (ND.digs y)) => ref02_Gcd.calls A B c d x y W h1 hac h2 hbd lx ly)
 have HX:=am (fun (AG:Option Addr) (cG:Nat) (W:World) (h1:CI W A (ND.digs x)) (h2:CI W AG (ND.digs (Nat.gcd x y))) (hc:(ND.digs (Nat.gcd x y)).length ≤ cG) => ref02_Div.calls A AG c cG x (Nat.gcd x y) W h1 hac h2 hc hg lx hlg)
 have HY:=am (fun (AG:Option Addr) (cG:Nat) (W:World) (h1:CI W B (ND.digs y)) (h2:CI W AG (ND.digs (Nat.gcd x y))) (hc:(ND.digs (Nat.gcd x y)).length ≤ cG) => ref02_Div.calls B AG d cG y (Nat.gcd x y) W h1 hbd h2 hc hg ly hlg)
 clear ha hb lx ly hac hbd hy hg hlg
 generalize Nat.gcd x y = G at *
 go_enter Tryz.func45,Tryz.ntmps45
 go_wp2_with (first
  | ((with_reducible refine gate_dst (N:=4) rfl ?_);refine bxe 4 #[.slice A (ND.digs x).length c] 32 ?_;intro g4 eg wg4 b1 hb;have Gg4:Aside0 (w.heap.size ≤ g4):=szl eg (h:=HB.out);have Bg4:=am b1;replace HB:=bst hb (h:=HB.out);clear hb b1 eg;obtain ⟨zg4,fg4⟩:=cf1 Bg4.out)
  | ((with_reducible refine gate_dst (N:=5) rfl ?_);refine bxe 5 #[.slice B (ND.digs y).length d] 32 ?_;intro g5 eg wg5 b1 hb;have Gg5:Aside0 (w.heap.size ≤ g5):=szl eg (h:=HB.out);have Ng4_g5:=nel g4 eg (Bg4.out);replace Bg4:=bbl g4 hb;have Bg5:=am b1;replace HB:=bst hb (h:=HB.out);clear hb b1 eg;clear zg4 fg4;obtain ⟨zg4,fg4⟩:=cf1 Bg4.out;obtain ⟨zg5,fg5⟩:=cf1 Bg5.out)
  | ((with_reducible refine gate_dst (N:=6) rfl ?_);refine bxe 6 #[.bool false,.slice none 0 0,.slice none 0 0] 34 ?_;intro g6 eg wg6 b1 hb;have Gg6:Aside0 (w.heap.size ≤ g6):=szl eg (h:=HB.out);have Ng4_g6:=nel g4 eg (Bg4.out);have Ng5_g6:=nel g5 eg (Bg5.out);replace Bg4:=bbl g4 hb;replace Bg5:=bbl g5 hb;have Bg6:=am b1;replace HB:=bst hb (h:=HB.out);clear hb b1 eg;clear zg4 fg4 zg5 fg5;obtain ⟨zg4,fg4⟩:=cf1 Bg4.out;obtain ⟨zg5,fg5⟩:=cf1 Bg5.out;obtain ⟨zg6,fg6⟩:=cf3 Bg6.out)
  | (go_at_call 100;(with_reducible refine (HG.out _ (Kd.C_below HA.out HB.out) (Kd.C_below HC.out HB.out)).mono ?_);rintro e wc3 ⟨AG,cG,rfl,RG,hb⟩;replace Bg4:=bbl g4 hb;replace Bg5:=bbl g5 hb;replace Bg6:=bbl g6 hb;replace RG:=rlo RG (h:=HB.out);replace HB:=bst hb (h:=HB.out);clear hb;clear zg4 fg4 zg5 fg5 zg6 fg6;obtain ⟨zg4,fg4⟩:=cf1 Bg4.out;obtain ⟨zg5,fg5⟩:=cf1 Bg5.out;obtain ⟨zg6,fg6⟩:=cf3 Bg6.out)
  | ((with_reducible refine gate_dst (N:=7) rfl ?_);refine bxe 7 #[.slice none 0 0] 32 ?_;intro g7 eg wg7 b1 hb;have Gg7:Aside0 (w.heap.size ≤ g7):=szl eg (h:=HB.out);have Ng4_g7:=nel g4 eg (Bg4.out);have Ng5_g7:=nel g5 eg (Bg5.out);have Ng6_g7:=nel g6 eg (Bg6.out);replace Bg4:=bbl g4 hb;replace Bg5:=bbl g5 hb;replace Bg6:=bbl g6 hb;replace RG:=rbl RG hb;have Bg7:=am b1;replace HB:=bst hb (h:=HB.out);clear hb b1 eg;clear zg4 fg4 zg5 fg5 zg6 fg6;obtain ⟨zg4,fg4⟩:=cf1 Bg4.out;obtain ⟨zg5,fg5⟩:=cf1 Bg5.out;obtain ⟨zg6,fg6⟩:=cf3 Bg6.out;obtain ⟨zg7,fg7⟩:=cf1 Bg7.out)
  | (refine gate_ (.store 32 (.tmp 7) (.tmp 19)) rfl ?_;refine stB 7 _ Bg7 Gg7 ?_ (HB:=HB.out);intro ws5 b1 HB1 kb;replace RG:=kbR RG Bg7 kb;replace Bg4:=kbB Bg4 (Ng4_g7.out) kb;replace Bg5:=kbB Bg5 (Ng5_g7.out) kb;replace Bg6:=kbB Bg6 (Ng6_g7.out) kb;replace Bg7:=am b1;replace HB:=am HB1;clear b1 HB1 kb;clear zg4 fg4 zg5 fg5 zg6 fg6 zg7 fg7;obtain ⟨zg4,fg4⟩:=cf1 Bg4.out;obtain ⟨zg5,fg5⟩:=cf1 Bg5.out;obtain ⟨zg6,fg6⟩:=cf3 Bg6.out;obtain ⟨zg7,fg7⟩:=cf1 Bg7.out)
  | (go_at_call 101;(with_reducible refine (HX.out AG cG _ (Kd.C_below HA.out HB.out) (rC RG) (rL RG)).mono ?_);rintro e wc6 ⟨A1,c1,A2,c2,rfl,R1,hb⟩;replace Bg4:=bbl g4 hb;replace Bg5:=bbl g5 hb;replace Bg6:=bbl g6 hb;replace Bg7:=bbl g7 hb;replace RG:=rbl RG hb;replace R1:=rlo R1 (h:=HB.out);replace HB:=bst hb (h:=HB.out);clear hb HX;clear zg4 fg4 zg5 fg5 zg6 fg6 zg7 fg7;obtain ⟨zg4,fg4⟩:=cf1 Bg4.out;obtain ⟨zg5,fg5⟩:=cf1 Bg5.out;obtain ⟨zg6,fg6⟩:=cf3 Bg6.out;obtain ⟨zg7,fg7⟩:=cf1 Bg7.out)
  | ((with_reducible refine gate_dst (N:=9) rfl ?_);refine bxe 9 #[.slice none 0 0] 32 ?_;intro g9 eg wg9 b1 hb;have Gg9:Aside0 (w.heap.size ≤ g9):=szl eg (h:=HB.out);have Ng4_g9:=nel g4 eg (Bg4.out);have Ng5_g9:=nel g5 eg (Bg5.out);have Ng6_g9:=nel g6 eg (Bg6.out);have Ng7_g9:=nel g7 eg (Bg7.out);replace Bg4:=bbl g4 hb;replace Bg5:=bbl g5 hb;replace Bg6:=bbl g6 hb;replace Bg7:=bbl g7 hb;replace RG:=rbl RG hb;replace R1:=rbl R1 hb;have Bg9:=am b1;replace HB:=bst hb (h:=HB.out);clear hb b1 eg;clear zg4 fg4 zg5 fg5 zg6 fg6 zg7 fg7;obtain ⟨zg4,fg4⟩:=cf1 Bg4.out;obtain ⟨zg5,fg5⟩:=cf1 Bg5.out;obtain ⟨zg6,fg6⟩:=cf3 Bg6.out;obtain ⟨zg7,fg7⟩:=cf1 Bg7.out;obtain ⟨zg9,fg9⟩:=cf1 Bg9.out)
  | ((with_reducible refine gate_dst (N:=10) rfl ?_);refine bxe 10 #[.slice none 0 0] 32 ?_;intro g10 eg wg10 b1 hb;have Gg10:Aside0 (w.heap.size ≤ g10):=szl eg (h:=HB.out);have Ng4_g10:=nel g4 eg (Bg4.out);have Ng5_g10:=nel g5 eg (Bg5.out);have Ng6_g10:=nel g6 eg (Bg6.out);have Ng7_g10:=nel g7 eg (Bg7.out);have Ng9_g10:=nel g9 eg (Bg9.out);replace Bg4:=bbl g4 hb;replace Bg5:=bbl g5 hb;replace Bg6:=bbl g6 hb;replace Bg7:=bbl g7 hb;replace Bg9:=bbl g9 hb;replace RG:=rbl RG hb;replace R1:=rbl R1 hb;have Bg10:=am b1;replace HB:=bst hb (h:=HB.out);clear hb b1 eg;clear zg4 fg4 zg5 fg5 zg6 fg6 zg7 fg7 zg9 fg9;obtain ⟨zg4,fg4⟩:=cf1 Bg4.out;obtain ⟨zg5,fg5⟩:=cf1 Bg5.out;obtain ⟨zg6,fg6⟩:=cf3 Bg6.out;obtain ⟨zg7,fg7⟩:=cf1 Bg7.out;obtain ⟨zg9,fg9⟩:=cf1 Bg9.out;obtain ⟨zg10,fg10⟩:=cf1 Bg10.out)
  | (refine gate_ (.store 32 (.tmp 9) (.tmp 25)) rfl ?_;refine stB 9 _ Bg9 Gg9 ?_ (HB:=HB.out);intro ws9 b1 HB1 kb;replace RG:=kbR RG Bg9 kb;replace R1:=kbR R1 Bg9 kb;replace Bg4:=kbB Bg4 (Ng4_g9.out) kb;replace Bg5:=kbB Bg5 (Ng5_g9.out) kb;replace Bg6:=kbB Bg6 (Ng6_g9.out) kb;replace Bg7:=kbB Bg7 (Ng7_g9.out) kb;replace Bg10:=kbB Bg10 (Ng9_g10.out.symm) kb;replace Bg9:=am b1;replace HB:=am HB1;clear b1 HB1 kb;clear zg4 fg4 zg5 fg5 zg6 fg6 zg7 fg7 zg9 fg9 zg10 fg10;obtain ⟨zg4,fg4⟩:=cf1 Bg4.out;obtain ⟨zg5,fg5⟩:=cf1 Bg5.out;obtain ⟨zg6,fg6⟩:=cf3 Bg6.out;obtain ⟨zg7,fg7⟩:=cf1 Bg7.out;obtain ⟨zg9,fg9⟩:=cf1 Bg9.out;obtain ⟨zg10,fg10⟩:=cf1 Bg10.out)
  | (refine gate_ (.store 32 (.tmp 10) (.tmp 26)) rfl ?_;refine stB 10 _ Bg10 Gg10 ?_ (HB:=HB.out);intro ws10 b1 HB1 kb;replace RG:=kbR RG Bg10 kb;replace R1:=kbR R1 Bg10 kb;replace Bg4:=kbB Bg4 (Ng4_g10.out) kb;replace Bg5:=kbB Bg5 (Ng5_g10.out) kb;replace Bg6:=kbB Bg6 (Ng6_g10.out) kb;replace Bg7:=kbB Bg7 (Ng7_g10.out) kb;replace Bg9:=kbB Bg9 (Ng9_g10.out) kb;replace Bg10:=am b1;replace HB:=am HB1;clear b1 HB1 kb;clear zg4 fg4 zg5 fg5 zg6 fg6 zg7 fg7 zg9 fg9 zg10 fg10;obtain ⟨zg4,fg4⟩:=cf1 Bg4.out;obtain ⟨zg5,fg5⟩:=cf1 Bg5.out;obtain ⟨zg6,fg6⟩:=cf3 Bg6.out;obtain ⟨zg7,fg7⟩:=cf1 Bg7.out;obtain ⟨zg9,fg9⟩:=cf1 Bg9.out;obtain ⟨zg10,fg10⟩:=cf1 Bg10.out)
  | (go_at_call 101;(with_reducible refine (HY.out AG cG _ (Kd.C_below HC.out HB.out) (rC RG) (rL RG)).mono ?_);rintro e wc11 ⟨A3,c3,A4,c4,rfl,R3,hb⟩;replace Bg4:=bbl g4 hb;replace Bg5:=bbl g5 hb;replace Bg6:=bbl g6 hb;replace Bg7:=bbl g7 hb;replace Bg9:=bbl g9 hb;replace Bg10:=bbl g10 hb;replace RG:=rbl RG hb;replace R1:=rbl R1 hb;replace R3:=rlo R3 (h:=HB.out);replace HB:=bst hb (h:=HB.out);clear hb HY;clear zg4 fg4 zg5 fg5 zg6 fg6 zg7 fg7 zg9 fg9 zg10 fg10;obtain ⟨zg4,fg4⟩:=cf1 Bg4.out;obtain ⟨zg5,fg5⟩:=cf1 Bg5.out;obtain ⟨zg6,fg6⟩:=cf3 Bg6.out;obtain ⟨zg7,fg7⟩:=cf1 Bg7.out;obtain ⟨zg9,fg9⟩:=cf1 Bg9.out;obtain ⟨zg10,fg10⟩:=cf1 Bg10.out)
  | ((with_reducible refine gate_dst (N:=12) rfl ?_);refine bxe 12 #[.slice none 0 0] 32 ?_;intro g12 eg wg12 b1 hb;have Gg12:Aside0 (w.heap.size ≤ g12):=szl eg (h:=HB.out);have Ng4_g12:=nel g4 eg (Bg4.out);have Ng5_g12:=nel g5 eg (Bg5.out);have Ng6_g12:=nel g6 eg (Bg6.out);have Ng7_g12:=nel g7 eg (Bg7.out);have Ng9_g12:=nel g9 eg (Bg9.out);have Ng10_g12:=nel g10 eg (Bg10.out);replace Bg4:=bbl g4 hb;replace Bg5:=bbl g5 hb;replace Bg6:=bbl g6 hb;replace Bg7:=bbl g7 hb;replace Bg9:=bbl g9 hb;replace Bg10:=bbl g10 hb;replace RG:=rbl RG hb;replace R1:=rbl R1 hb;replace R3:=rbl R3 hb;have Bg12:=am b1;replace HB:=bst hb (h:=HB.out);clear hb b1 eg;clear zg4 fg4 zg5 fg5 zg6 fg6 zg7 fg7 zg9 fg9 zg10 fg10;obtain ⟨zg4,fg4⟩:=cf1 Bg4.out;obtain ⟨zg5,fg5⟩:=cf1 Bg5.out;obtain ⟨zg6,fg6⟩:=cf3 Bg6.out;obtain ⟨zg7,fg7⟩:=cf1 Bg7.out;obtain ⟨zg9,fg9⟩:=cf1 Bg9.out;obtain ⟨zg10,fg10⟩:=cf1 Bg10.out;obtain ⟨zg12,fg12⟩:=cf1 Bg12.out)
  | ((with_reducible refine gate_dst (N:=13) rfl ?_);refine bxe 13 #[.slice none 0 0] 32 ?_;intro g13 eg wg13 b1 hb;have Gg13:Aside0 (w.heap.size ≤ g13):=szl eg (h:=HB.out);have Ng4_g13:=nel g4 eg (Bg4.out);have Ng5_g13:=nel g5 eg (Bg5.out);have Ng6_g13:=nel g6 eg (Bg6.out);have Ng7_g13:=nel g7 eg (Bg7.out);have Ng9_g13:=nel g9 eg (Bg9.out);have Ng10_g13:=nel g10 eg (Bg10.out);have Ng12_g13:=nel g12 eg (Bg12.out);replace Bg4:=bbl g4 hb;replace Bg5:=bbl g5 hb;replace Bg6:=bbl g6 hb;replace Bg7:=bbl g7 hb;replace Bg9:=bbl g9 hb;replace Bg10:=bbl g10 hb;replace Bg12:=bbl g12 hb;replace RG:=rbl RG hb;replace R1:=rbl R1 hb;replace R3:=rbl R3 hb;have Bg13:=am b1;replace HB:=bst hb (h:=HB.out);clear hb b1 eg;clear zg4 fg4 zg5 fg5 zg6 fg6 zg7 fg7 zg9 fg9 zg10 fg10 zg12 fg12;obtain ⟨zg4,fg4⟩:=cf1 Bg4.out;obtain ⟨zg5,fg5⟩:=cf1 Bg5.out;obtain ⟨zg6,fg6⟩:=cf3 Bg6.out;obtain ⟨zg7,fg7⟩:=cf1 Bg7.out;obtain ⟨zg9,fg9⟩:=cf1 Bg9.out;obtain ⟨zg10,fg10⟩:=cf1 Bg10.out;obtain ⟨zg12,fg12⟩:=cf1 Bg12.out;obtain ⟨zg13,fg13⟩:=cf1 Bg13.out)
  | (refine gate_ (.store 32 (.tmp 12) (.tmp 32)) rfl ?_;refine stB 12 _ Bg12 Gg12 ?_ (HB:=HB.out);intro ws14 b1 HB1 kb;replace RG:=kbR RG Bg12 kb;replace R1:=kbR R1 Bg12 kb;replace R3:=kbR R3 Bg12 kb;replace Bg4:=kbB Bg4 (Ng4_g12.out) kb;replace Bg5:=kbB Bg5 (Ng5_g12.out) kb;replace Bg6:=kbB Bg6 (Ng6_g12.out) kb;replace Bg7:=kbB Bg7 (Ng7_g12.out) kb;replace Bg9:=kbB Bg9 (Ng9_g12.out) kb;replace Bg10:=kbB Bg10 (Ng10_g12.out) kb;replace Bg13:=kbB Bg13 (Ng12_g13.out.symm) kb;replace Bg12:=am b1;replace HB:=am HB1;clear b1 HB1 kb;clear zg4 fg4 zg5 fg5 zg6 fg6 zg7 fg7 zg9 fg9 zg10 fg10 zg12 fg12 zg13 fg13;obtain ⟨zg4,fg4⟩:=cf1 Bg4.out;obtain ⟨zg5,fg5⟩:=cf1 Bg5.out;obtain ⟨zg6,fg6⟩:=cf3 Bg6.out;obtain ⟨zg7,fg7⟩:=cf1 Bg7.out;obtain ⟨zg9,fg9⟩:=cf1 Bg9.out;obtain ⟨zg10,fg10⟩:=cf1 Bg10.out;obtain ⟨zg12,fg12⟩:=cf1 Bg12.out;obtain ⟨zg13,fg13⟩:=cf1 Bg13.out)
  | (refine gate_ (.store 32 (.tmp 13) (.tmp 33)) rfl ?_;refine stB 13 _ Bg13 Gg13 ?_ (HB:=HB.out);intro ws15 b1 HB1 kb;replace RG:=kbR RG Bg13 kb;replace R1:=kbR R1 Bg13 kb;replace R3:=kbR R3 Bg13 kb;replace Bg4:=kbB Bg4 (Ng4_g13.out) kb;replace Bg5:=kbB Bg5 (Ng5_g13.out) kb;replace Bg6:=kbB Bg6 (Ng6_g13.out) kb;replace Bg7:=kbB Bg7 (Ng7_g13.out) kb;replace Bg9:=kbB Bg9 (Ng9_g13.out) kb;replace Bg10:=kbB Bg10 (Ng10_g13.out) kb;replace Bg12:=kbB Bg12 (Ng12_g13.out) kb;replace Bg13:=am b1;replace HB:=am HB1;clear b1 HB1 kb;clear zg4 fg4 zg5 fg5 zg6 fg6 zg7 fg7 zg9 fg9 zg10 fg10 zg12 fg12 zg13 fg13;obtain ⟨zg4,fg4⟩:=cf1 Bg4.out;obtain ⟨zg5,fg5⟩:=cf1 Bg5.out;obtain ⟨zg6,fg6⟩:=cf3 Bg6.out;obtain ⟨zg7,fg7⟩:=cf1 Bg7.out;obtain ⟨zg9,fg9⟩:=cf1 Bg9.out;obtain ⟨zg10,fg10⟩:=cf1 Bg10.out;obtain ⟨zg12,fg12⟩:=cf1 Bg12.out;obtain ⟨zg13,fg13⟩:=cf1 Bg13.out))
 clear zg4 fg4 zg5 fg5 zg6 fg6 zg7 fg7 zg9 fg9 zg10 fg10 zg12 fg12 zg13 fg13
 refine stt 10 (fun w' => w'.cell? ⟨g9,0,none⟩ = some (.slice A1 (ND.digs (x / G)).length c1) ∧ w'.cell? ⟨g12,0,none⟩ = some (.slice A3 (ND.digs (y / G)).length c3)) [9] _ _ t64_4 w64_4 ⟨hc 0 Bg9.out,hc 0 Bg12.out⟩ fun w0 hb hS HT HW => ?_
 replace R1:=rbl R1 hb
 replace R3:=rbl R3 hb
 replace Bg6:=bbl g6 hb (h:=Bg6.out)
 replace HB:=bst hb (h:=HB.out)
 clear hb
 obtain ⟨⟨z0,z1,z2⟩,f0,f1,f2⟩:=cf3 Bg6.out
 refine pu 0 ?_
 refine pu 1 ?_
 refine pu 2 ?_
 refine pu 3 ?_
 refine pu 4 ?_
 refine pu 5 ?_
 refine tk 6 ?_
 refine tk 7 ?_
 refine pu 8 ?_
 refine lst 9 ?_
 go_wp2
 refine bodyPost_ret (results_cell_row rfl _ _ g6 34 #[.bool false,.slice A1 (ND.digs (x / G)).length c1,.slice A3 (ND.digs (y / G)).length c3] (0,0) _ rfl (set3 sb) Tryz.underlying34 rfl (by kernel_rfl)) rfl ?_
 exact ⟨A1,c1,A3,c3,rfl,rx,rx,bel⟩
theorem fraction_Of.calls (x y:Nat) (w:World) (hx:x ≤ 1000000000000000) (hy:y ≤ 1000000000000000) (h0:0 < y) :
  Calls Tryz.prog 22 #[.int .i64 (x:Int),.int .i64 (y:Int)] w fun e w' => ∃ A1 c1 A2 c2,e = .returned (.tuple #[.agg #[.bool false,.slice A1 (ND.digs (x / Nat.gcd x y)).length c1,.slice A2 (ND.digs (y / Nat.gcd x y)).length c2],.int .i64 0]) ∧ RI w' w (.slice A1 (ND.digs (x / Nat.gcd x y)).length c1) (ND.digs (x / Nat.gcd x y)) ∧ RI w' w (.slice A2 (ND.digs (y / Nat.gcd x y)).length c2) (ND.digs (y / Nat.gcd x y)) ∧ Below w.heap.size w w':=by
 have hu32:=Tryz.underlying32
 have hu34:=Tryz.underlying34
 have HB:=am (Below.refl w.heap.size w)
 have HX:=am (show x < 1000000000000000000 by omega)
 have HY:=am (show y < 1000000000000000000 by omega)
 have lx:(ND.digs x).length ≤ 200:=Nat.le_trans (ND.digs_length (k:=5) (by omega)) (by decide)
 have ly:(ND.digs y).length ≤ 200:=Nat.le_trans (ND.digs_length (k:=5) (by omega)) (by decide)
 have HR:=am (fun (A1 A2:Option Addr) (c1 c2:Nat) (W:World) (h1:CI W A1 (ND.digs x)) (k1:(ND.digs x).length ≤ c1) (h2:CI W A2 (ND.digs y)) (k2:(ND.digs y).length ≤ c2) => fraction_reduce.calls A1 A2 c1 c2 x y W h1 k1 h2 k2 h0 lx ly)
 clear lx ly
 have m1:max (x:Int) (-(x:Int)) = x:=by omega
 have m2:max (y:Int) (-(y:Int)) = y:=by omega
 have m3:¬ (1000000000000000 < max (x:Int) (y:Int)):=by omega
 have m4:¬ (min (x:Int) (y:Int) < -1000000000000000):=by omega
 have n1:decide ((x:Int) < 0) = false:=decide_eq_false (by omega)
 have n2:decide ((y:Int) < 0) = false:=decide_eq_false (by omega)
 have n3:(!(false == false)) = false:=rfl
 generalize x / Nat.gcd x y = N at *
 generalize y / Nat.gcd x y = M at *
 go_enter Tryz.func22,Tryz.ntmps22
 go_wp2_with (first
  | ((with_reducible refine gate_dst (N:=4) rfl ?_);refine bxe 4 #[.bool false,.slice none 0 0,.slice none 0 0] 34 ?_;intro g4 eg wg4 b1 hb;have Gg4:Aside0 (w.heap.size ≤ g4):=szl eg (h:=HB.out);have Bg4:=am b1;replace HB:=bst hb (h:=HB.out);clear hb b1 eg;obtain ⟨zg4,fg4⟩:=cf3 Bg4.out)
  | (go_at_call 53;(with_reducible refine (fraction_number.calls x _ HX.out).mono ?_);rintro e wc1 ⟨A1,c1,rfl,R1,hb⟩;replace Bg4:=bbl g4 hb;replace R1:=rlo R1 (h:=HB.out);replace HB:=bst hb (h:=HB.out);clear hb HX;clear zg4 fg4;obtain ⟨zg4,fg4⟩:=cf3 Bg4.out)
  | (go_at_call 53;(with_reducible refine (fraction_number.calls y _ HY.out).mono ?_);rintro e wc2 ⟨A2,c2,rfl,R2,hb⟩;replace Bg4:=bbl g4 hb;replace R1:=rbl R1 hb;replace R2:=rlo R2 (h:=HB.out);replace HB:=bst hb (h:=HB.out);clear hb HY;clear zg4 fg4;obtain ⟨zg4,fg4⟩:=cf3 Bg4.out)
  | (go_at_call 52;(with_reducible refine (HR.out A1 A2 c1 c2 _ (rC R1) (rL R1) (rC R2) (rL R2)).mono ?_);rintro e wc3 ⟨A3,c3,A5,c5,rfl,R3,R5,hb⟩;replace Bg4:=bbl g4 hb;replace R1:=rbl R1 hb;replace R2:=rbl R2 hb;replace R3:=rlo R3 (h:=HB.out);replace R5:=rlo R5 (h:=HB.out);replace HB:=bst hb (h:=HB.out);clear hb HR;clear zg4 fg4;obtain ⟨zg4,fg4⟩:=cf3 Bg4.out))
 all_goals refine bodyPost_ret (results_ct rfl _ _ g4 34 #[.bool false,.slice A3 (ND.digs N).length c3,.slice A5 (ND.digs M).length c5] (0,0) _ rfl (set3 sb) Tryz.underlying34 rfl (by kernel_rfl)) rfl ?_
 all_goals exact ⟨A3,c3,A5,c5,rfl,rx,rx,bel⟩
theorem ref03_Of.calls (x y:Nat) (w:World) (hx:x ≤ 1000000000000000) (hy:y ≤ 1000000000000000) (h0:0 < y) :
  Calls Tryz.prog 17 #[.int .i64 (x:Int),.int .i64 (y:Int)] w fun e w' => ∃ A1 c1 A2 c2,e = .returned (.tuple #[.agg #[.bool false,.slice A1 (ND.digs (x / Nat.gcd x y)).length c1,.slice A2 (ND.digs (y / Nat.gcd x y)).length c2],.int .i64 0]) ∧ RI w' w (.slice A1 (ND.digs (x / Nat.gcd x y)).length c1) (ND.digs (x / Nat.gcd x y)) ∧ RI w' w (.slice A2 (ND.digs (y / Nat.gcd x y)).length c2) (ND.digs (y / Nat.gcd x y)) ∧ Below w.heap.size w w':=by
 have hu32:=Tryz.underlying32
 have hu34:=Tryz.underlying34
 have HB:=am (Below.refl w.heap.size w)
 have HX:=am (show x < 1000000000000000000 by omega)
 have HY:=am (show y < 1000000000000000000 by omega)
 have lx:(ND.digs x).length ≤ 200:=Nat.le_trans (ND.digs_length (k:=5) (by omega)) (by decide)
 have ly:(ND.digs y).length ≤ 200:=Nat.le_trans (ND.digs_length (k:=5) (by omega)) (by decide)
 have HR:=am (fun (A1 A2:Option Addr) (c1 c2:Nat) (W:World) (h1:CI W A1 (ND.digs x)) (k1:(ND.digs x).length ≤ c1) (h2:CI W A2 (ND.digs y)) (k2:(ND.digs y).length ≤ c2) => ref03_lowest.calls A1 A2 c1 c2 x y W h1 k1 h2 k2 h0 lx ly)
 clear lx ly
 have m1:max (x:Int) (-(x:Int)) = x:=by omega
 have m2:max (y:Int) (-(y:Int)) = y:=by omega
 have m3:¬ (1000000000000000 < max (x:Int) (y:Int)):=by omega
 have m4:¬ (min (x:Int) (y:Int) < -1000000000000000):=by omega
 have n1:decide ((x:Int) < 0) = false:=decide_eq_false (by omega)
 have n2:decide ((y:Int) < 0) = false:=decide_eq_false (by omega)
 have n3:(!(false == false)) = false:=rfl
 generalize x / Nat.gcd x y = N at *
 generalize y / Nat.gcd x y = M at *
 go_enter Tryz.func17,Tryz.ntmps17
 go_wp2_with (first
  | ((with_reducible refine gate_dst (N:=4) rfl ?_);refine bxe 4 #[.bool false,.slice none 0 0,.slice none 0 0] 34 ?_;intro g4 eg wg4 b1 hb;have Gg4:Aside0 (w.heap.size ≤ g4):=szl eg (h:=HB.out);have Bg4:=am b1;replace HB:=bst hb (h:=HB.out);clear hb b1 eg;obtain ⟨zg4,fg4⟩:=cf3 Bg4.out)
  | (go_at_call 46;(with_reducible refine (ref02_Small.calls x _ HX.out).mono ?_);rintro e wc1 ⟨A1,c1,rfl,R1,hb⟩;replace Bg4:=bbl g4 hb;replace R1:=rlo R1 (h:=HB.out);replace HB:=bst hb (h:=HB.out);clear hb HX;clear zg4 fg4;obtain ⟨zg4,fg4⟩:=cf3 Bg4.out)
  | (go_at_call 46;(with_reducible refine (ref02_Small.calls y _ HY.out).mono ?_);rintro e wc2 ⟨A2,c2,rfl,R2,hb⟩;replace Bg4:=bbl g4 hb;replace R1:=rbl R1 hb;replace R2:=rlo R2 (h:=HB.out);replace HB:=bst hb (h:=HB.out);clear hb HY;clear zg4 fg4;obtain ⟨zg4,fg4⟩:=cf3 Bg4.out)
  | (go_at_call 45;(with_reducible refine (HR.out A1 A2 c1 c2 _ (rC R1) (rL R1) (rC R2) (rL R2)).mono ?_);rintro e wc3 ⟨A3,c3,A5,c5,rfl,R3,R5,hb⟩;replace Bg4:=bbl g4 hb;replace R1:=rbl R1 hb;replace R2:=rbl R2 hb;replace R3:=rlo R3 (h:=HB.out);replace R5:=rlo R5 (h:=HB.out);replace HB:=bst hb (h:=HB.out);clear hb HR;clear zg4 fg4;obtain ⟨zg4,fg4⟩:=cf3 Bg4.out))
 all_goals refine bodyPost_ret (results_ct rfl _ _ g4 34 #[.bool false,.slice A3 (ND.digs N).length c3,.slice A5 (ND.digs M).length c5] (0,0) _ rfl (set3 sb) Tryz.underlying34 rfl (by kernel_rfl)) rfl ?_
 all_goals exact ⟨A3,c3,A5,c5,rfl,rx,rx,bel⟩
theorem cmpN_self (x:Nat):cmpN x x = 0:=by unfold cmpN;rw [if_neg (by omega),if_pos rfl]
theorem ref03_Same.calls (A B C D:Option Addr) (c d e f:Nat) (x y:Nat) (w:World) (ha:CI w A (ND.digs x)) (hb:CI w B (ND.digs y)) (hc:CI w C (ND.digs x)) (hd:CI w D (ND.digs y)) :
  Calls Tryz.prog 11 #[.agg #[.bool false,.slice A (ND.digs x).length c,.slice B (ND.digs y).length d],.agg #[.bool false,.slice C (ND.digs x).length e,.slice D (ND.digs y).length f]] w fun e w' => e = .returned (.bool true) ∧ Below w.heap.size w w':=by
 have hu32:=Tryz.underlying32
 have hu34:=Tryz.underlying34
 have HA:=am ha
 have HE:=am hb
 have HC:=am hc
 have HF:=am hd
 have HB:=am (Below.refl w.heap.size w)
 have s1:=cmpN_self x
 have s2:=cmpN_self y
 clear ha hb hc hd
 go_enter Tryz.func11,Tryz.ntmps11
 go_wp2_with (first
  | ((with_reducible refine gate_dst (N:=2) rfl ?_);refine bxe 2 #[.bool false,.slice A (ND.digs x).length c,.slice B (ND.digs y).length d] 34 ?_;intro g2 eg wg2 b1 hb;have Gg2:Aside0 (w.heap.size ≤ g2):=szl eg (h:=HB.out);have Bg2:=am b1;replace HB:=bst hb (h:=HB.out);clear hb b1 eg;obtain ⟨zg2,fg2⟩:=cf3 Bg2.out)
  | ((with_reducible refine gate_dst (N:=3) rfl ?_);refine bxe 3 #[.bool false,.slice C (ND.digs x).length e,.slice D (ND.digs y).length f] 34 ?_;intro g3 eg wg3 b1 hb;have Gg3:Aside0 (w.heap.size ≤ g3):=szl eg (h:=HB.out);have Ng2_g3:=nel g2 eg (Bg2.out);replace Bg2:=bbl g2 hb;have Bg3:=am b1;replace HB:=bst hb (h:=HB.out);clear hb b1 eg;clear zg2 fg2;obtain ⟨zg2,fg2⟩:=cf3 Bg2.out;obtain ⟨zg3,fg3⟩:=cf3 Bg3.out)
  | (go_at_call 32;(with_reducible refine (ref02_Same.calls A C c e x x _ (Kd.C_below HA.out HB.out) (Kd.C_below HC.out HB.out)).mono ?_);rintro e wc2 ⟨rfl,hb⟩;replace Bg2:=bbl g2 hb;replace Bg3:=bbl g3 hb;replace HB:=bst hb (h:=HB.out);clear hb;clear zg2 fg2 zg3 fg3;obtain ⟨zg2,fg2⟩:=cf3 Bg2.out;obtain ⟨zg3,fg3⟩:=cf3 Bg3.out)
  | (go_at_call 32;(with_reducible refine (ref02_Same.calls B D d f y y _ (Kd.C_below HE.out HB.out) (Kd.C_below HF.out HB.out)).mono ?_);rintro e wc3 ⟨rfl,hb⟩;replace Bg2:=bbl g2 hb;replace Bg3:=bbl g3 hb;replace HB:=bst hb (h:=HB.out);clear hb;clear zg2 fg2 zg3 fg3;obtain ⟨zg2,fg2⟩:=cf3 Bg2.out;obtain ⟨zg3,fg3⟩:=cf3 Bg3.out))
 go_ret
 exact ⟨rfl,bel⟩
end Go.Proofs.YtnbcnoabbdegpaaGreatDoor.V
