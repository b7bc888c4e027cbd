/- A part of the proof of the tied card of ProfileRate (chapter 53): the law returns true whatever the input. -/
import Derived.Test.YtnbcnoabbdegpaaGreatDoorZD7
import Derived.Test.YtnbcnoabbdegpaaGreatDoorZD6
import Derived.Test.YtnbcnoabbdegpaaGreatDoorZS
import Derived.Test.YtnbcnoabbdegpaaGreatDoorZU2
set_option linter.unusedVariables false
set_option linter.unusedSimpArgs false
namespace Go.Proofs.YtnbcnoabbdegpaaGreatDoor.V
open Go.RowKit Go.Proofs.YtnbcnoabbdegpaaGreatDoorW.PrintWords Go.Proofs.YtnbcnoabbdegpaaGreatDoorW.PrintLast Go.Proofs.YtnbcnoabbdegpaaGreatDoorW.PrintMore
attribute [local go_sem] max2_int min2_int max_two min_two
set_option linter.unusedVariables false
set_option linter.unusedSimpArgs false
set_option maxHeartbeats 8000000
set_option maxRecDepth 100000
def rErr (nm:ByteArray) (ls:List S72) (l:List ByteArray) (cs:List Int) (key:ByteArray):Int:=if P.proErr nm ls l cs = 0 then (if ls.length = 0 then 7 else P.keyErr key) else P.proErr nm ls l cs
def rCnt (l:List ByteArray) (cs:List Int) (key:ByteArray):Nat:=((PM.get (P.pz l cs) key.toList).getD 0).toNat
def rN (nm:ByteArray) (ls:List S72) (l:List ByteArray) (cs:List Int) (key:ByteArray):Nat:=if rErr nm ls l cs key = 0 then rCnt l cs key / Nat.gcd (rCnt l cs key) ls.length else 0
def rM (nm:ByteArray) (ls:List S72) (l:List ByteArray) (cs:List Int) (key:ByteArray):Nat:=if rErr nm ls l cs key = 0 then ls.length / Nat.gcd (rCnt l cs key) ls.length else 0
def RetFE (w w':World) (e:Ending) (n m:Nat) (r:Int):Prop:=∃ A1 c1 A2 c2,e = .returned (.tuple #[.agg #[.bool false,.slice A1 (ND.digs n).length c1,.slice A2 (ND.digs m).length c2],.int .i64 r]) ∧ RI w' w (.slice A1 (ND.digs n).length c1) (ND.digs n) ∧ RI w' w (.slice A2 (ND.digs m).length c2) (ND.digs m) ∧ Below w.heap.size w w'
theorem retFE0 {w w':World} {r:Int} (hb:Below w.heap.size w w'):RetFE w w' (.returned (.tuple #[.agg #[.bool false,.slice none 0 0,.slice none 0 0],.int .i64 r])) 0 0 r:=by
 refine ⟨none,0,none,0,?_,?_,?_,hb⟩
 ·rw [ND.digs0];rfl
 ·rw [ND.digs0];exact Kd.R_nil _ _ _ _ _
 ·rw [ND.digs0];exact Kd.R_nil _ _ _ _ _
theorem cnt_law {l:List ByteArray} {cs:List Int} (h:P.TalOK l cs) (key:ByteArray):(PM.get (P.pz l cs) key.toList).getD 0 = ((rCnt l cs key:Nat):Int) ∧ rCnt l cs key ≤ 1000000:=by
 unfold rCnt
 cases hg:PM.get (P.pz l cs) key.toList with
 | none => exact ⟨rfl,by decide⟩
 | some n =>
  have hm:=P.tal_mem h _ (PM.get_mem hg)
  have h1:1 ≤ n ∧ n ≤ 1000000:=hm
  rw [Option.getD_some]
  omega
def T7_9:Bool × List (List Nat × List Nat):=(true,[([],[]),([0],[0]),([],[]),([1,2],[1,2]),([],[]),([4],[4]),([5],[5]),([3,6,3],[3,6]),([7],[7]),([7],[7]),([8,7,0,1,2,3,4,5,6,7,8,9],[8]),([9,10,0,1,2,3,4,5,6,7,8,9,10],[9])])
def B7_9:List Nat:=[0,1,0,7,0,16,48,127,255,255,1023,2047]
theorem t7_9:rtab .any (opsOf Tryz.f6 9) = T7_9:=by kernel_rfl
theorem w7_9:waitsOk T7_9.2 B7_9 = true:=by kernel_rfl
def T9_9:Bool × List (List Nat × List Nat):=(true,[([],[]),([0],[0]),([],[]),([1,2],[1,2]),([],[]),([4],[4]),([5],[5]),([3,6,3],[3,6]),([7],[7]),([7],[7]),([8,7,0,1,2,3,4,5,6,7,8,9],[8]),([9,10,0,1,2,3,4,5,6,7,8,9,10],[9])])
def B9_9:List Nat:=[0,1,0,7,0,16,48,127,255,255,1023,2047]
theorem t9_9:rtab .any (opsOf Tryz.f8 9) = T9_9:=by kernel_rfl
theorem w9_9:waitsOk T9_9.2 B9_9 = true:=by kernel_rfl
theorem profile_Rate.calls (nm:ByteArray) (A1:Option Addr) (c1:Nat) (ls:List S72) (A2:Option Addr) (c2:Nat) (l:List ByteArray) (A3:Option Addr) (c3:Nat) (cs:List Int) (key:ByteArray) (w:World) (hr1:Kd.C k72 w A1 ls.length ls) (hc1:ls.length ≤ c1) (hr2:Kd.C Kd.string w A2 l.length l) (hc2:l.length ≤ c2) (hr3:Kd.C (Kd.int .i64) w A3 cs.length cs) (hc3:cs.length ≤ c3) :
  Calls Tryz.prog 6 #[.agg #[.string nm,.slice A1 ls.length c1,.slice A2 l.length c2,.slice A3 cs.length c3],.string key] w fun e w' => RetFE w w' e (rN nm ls l cs key) (rM nm ls l cs key) (rErr nm ls l cs key):=by
 have hu34:=Tryz.underlying34
 have hu28:=Tryz.underlying28
 have hu26:=Tryz.underlying26
 have HR1:=am hr1
 have HR2:=am hr2
 have HR3:=am hr3
 have HB:=am (Below.refl w.heap.size w)
 have HV:=am (fun (W:World) (h:Below w.heap.size w W) => profile_valid.calls 10000 nm A1 c1 ls A2 c2 l A3 c3 cs (P.proErr nm ls l cs) W (Kd.C_below hr1 h) hc1 (Kd.C_below hr2 h) hc2 (Kd.C_below hr3 h) hc3 (P.proO nm ls l cs 10000 (Nat.le_refl _)))
 by_cases hp:P.proErr nm ls l cs = 0
 ·have hok:=P.talErr_zero l cs (P.proErr_zero hp).2
  have hls:=(P.proErr_zero hp).1
  rw [hp] at HV
  by_cases hl0:ls.length = 0
  ·have hr:rErr nm ls l cs key = 7:=by unfold rErr;rw [if_pos hp,if_pos hl0]
   have hn:rN nm ls l cs key = 0:=by unfold rN;rw [if_neg (by rw [hr];decide)]
   have hm:rM nm ls l cs key = 0:=by unfold rM;rw [if_neg (by rw [hr];decide)]
   rw [hr,hn,hm]
   have hz:((ls.length:Int) == 0) = true:=beq_iff_eq.2 (by omega)
   clear hr hn hm hp hok hls hl0 hr1 hr2 hr3 hc1 hc2 hc3
   go_enter Tryz.func6,Tryz.ntmps6
   go_wp2_with (first
    | ((with_reducible refine gate_dst (N:=2) rfl ?_);refine bxe 2 #[.string nm,.slice A1 ls.length c1,.slice A2 l.length c2,.slice A3 cs.length c3] 28 ?_;intro g2 eg w1 b1 hb;have B2:=am b1;replace HB:=bst hb (h:=HB.out);clear hb b1 eg;obtain ⟨⟨z0,z1,z2,z3⟩,f0,f1,f2,f3⟩:=cf4 B2.out)
    | ((with_reducible refine gate_dst (N:=4) rfl ?_);refine bxe 4 #[.bool false,.slice none 0 0,.slice none 0 0] 34 ?_;intro g4 eg w2 b1 hb;have N24:=nel g2 eg (B2.out);have G4:Aside0 (w.heap.size ≤ g4):=szl eg (h:=HB.out);replace B2:=bbl g2 hb (h:=B2.out);have B4:=am b1;replace HB:=bst hb (h:=HB.out);clear hb b1 eg z0 z1 z2 z3 f0 f1 f2 f3;obtain ⟨⟨z0,z1,z2,z3⟩,f0,f1,f2,f3⟩:=cf4 B2.out;obtain ⟨⟨y0,y1,y2⟩,k0,k1,k2⟩:=cf3 B4.out)
    | (go_at_call 20;(with_reducible refine (HV.out _ HB.out).mono ?_);rintro e w3 ⟨rfl,hb⟩;replace B2:=bbl g2 hb (h:=B2.out);replace B4:=bbl g4 hb (h:=B4.out);replace HB:=bst hb (h:=HB.out);clear hb;clear z0 z1 z2 z3 f0 f1 f2 f3 y0 y1 y2 k0 k1 k2;obtain ⟨⟨z0,z1,z2,z3⟩,f0,f1,f2,f3⟩:=cf4 B2.out;obtain ⟨⟨y0,y1,y2⟩,k0,k1,k2⟩:=cf3 B4.out))
   refine bodyPost_ret (results_ct rfl _ _ g4 34 #[.bool false,.slice none 0 0,.slice none 0 0] (0,0) _ rfl (set3 B4.out) Tryz.underlying34 rfl (by kernel_rfl)) rfl ?_
   exact retFE0 (below_set (below_set (below_set HB.out G4.out) G4.out) G4.out)
  ·have hz:((ls.length:Int) == 0) = false:=beq_eq_false_iff_ne.2 (by omega)
   by_cases hk:P.keyErr key = 0
   ·have hr:rErr nm ls l cs key = 0:=by unfold rErr;rw [if_pos hp,if_neg hl0,hk]
    have hn:rN nm ls l cs key = rCnt l cs key / Nat.gcd (rCnt l cs key) ls.length:=by unfold rN;rw [if_pos hr]
    have hm:rM nm ls l cs key = ls.length / Nat.gcd (rCnt l cs key) ls.length:=by unfold rM;rw [if_pos hr]
    rw [hr,hn,hm]
    have hcnt:=cnt_law hok key
    have HK:=am (fun (W:World) => add_nil key W)
    rw [hk] at HK
    have HGET:=am (fun (W:World) (h:Below w.heap.size w W) => tally_Get.calls A2 A3 c2 c3 l cs key W (Kd.C_below hr2 h) (Kd.C_below hr3 h) hok (by have:=hok.few;omega))
    rw [hcnt.1] at HGET
    have HOF:=am (fun (W:World) => fraction_Of.calls (rCnt l cs key) ls.length W (by have:=hcnt.2;omega) (by omega) (by omega))
    generalize rCnt l cs key / Nat.gcd (rCnt l cs key) ls.length = N at *
    generalize ls.length / Nat.gcd (rCnt l cs key) ls.length = M at *
    generalize rCnt l cs key = X at *
    clear hr hn hm hp hok hls hl0 hr1 hr2 hr3 hc1 hc2 hc3 hcnt hk
    go_enter Tryz.func6,Tryz.ntmps6
    go_wp2_with (first
     | ((with_reducible refine gate_dst (N:=2) rfl ?_);refine bxe 2 #[.string nm,.slice A1 ls.length c1,.slice A2 l.length c2,.slice A3 cs.length c3] 28 ?_;intro g2 eg w1 b1 hb;have B2:=am b1;replace HB:=bst hb (h:=HB.out);clear hb b1 eg;obtain ⟨⟨z0,z1,z2,z3⟩,f0,f1,f2,f3⟩:=cf4 B2.out)
     | ((with_reducible refine gate_dst (N:=4) rfl ?_);refine bxe 4 #[.bool false,.slice none 0 0,.slice none 0 0] 34 ?_;intro g4 eg w2 b1 hb;have N24:=nel g2 eg (B2.out);have G4:Aside0 (w.heap.size ≤ g4):=szl eg (h:=HB.out);replace B2:=bbl g2 hb (h:=B2.out);have B4:=am b1;replace HB:=bst hb (h:=HB.out);clear hb b1 eg z0 z1 z2 z3 f0 f1 f2 f3;obtain ⟨⟨z0,z1,z2,z3⟩,f0,f1,f2,f3⟩:=cf4 B2.out;obtain ⟨⟨y0,y1,y2⟩,k0,k1,k2⟩:=cf3 B4.out)
     | (go_at_call 20;(with_reducible refine (HV.out _ HB.out).mono ?_);rintro e w3 ⟨rfl,hb⟩;replace B2:=bbl g2 hb (h:=B2.out);replace B4:=bbl g4 hb (h:=B4.out);replace HB:=bst hb (h:=HB.out);clear hb;clear z0 z1 z2 z3 f0 f1 f2 f3 y0 y1 y2 k0 k1 k2;obtain ⟨⟨z0,z1,z2,z3⟩,f0,f1,f2,f3⟩:=cf4 B2.out;obtain ⟨⟨y0,y1,y2⟩,k0,k1,k2⟩:=cf3 B4.out)
     | (go_at_call 21;(with_reducible refine (HK.out _).mono ?_);rintro e w4 ⟨T1,T2,rfl,hb⟩;replace B2:=bbl g2 hb (h:=B2.out);replace B4:=bbl g4 hb (h:=B4.out);replace HB:=bst hb (h:=HB.out);clear hb;clear z0 z1 z2 z3 f0 f1 f2 f3 y0 y1 y2 k0 k1 k2;obtain ⟨⟨z0,z1,z2,z3⟩,f0,f1,f2,f3⟩:=cf4 B2.out;obtain ⟨⟨y0,y1,y2⟩,k0,k1,k2⟩:=cf3 B4.out)
     | ((with_reducible refine gate_dst (N:=7) rfl ?_);refine bxe 7 #[.slice none 0 0,.slice none 0 0] 26 ?_;intro g7 eg w5 b1 hb;have N27:=nel g2 eg (B2.out);have N47:=nel g4 eg (B4.out);have G7:Aside0 (w.heap.size ≤ g7):=szl eg (h:=HB.out);replace B2:=bbl g2 hb (h:=B2.out);replace B4:=bbl g4 hb (h:=B4.out);have B7:=am b1;replace HB:=bst hb (h:=HB.out);clear hb b1 eg;clear z0 z1 z2 z3 f0 f1 f2 f3 y0 y1 y2 k0 k1 k2;obtain ⟨⟨z0,z1,z2,z3⟩,f0,f1,f2,f3⟩:=cf4 B2.out;obtain ⟨⟨y0,y1,y2⟩,k0,k1,k2⟩:=cf3 B4.out)
     | (refine gate_ (.store 26 (.tmp 7) (.tmp 24)) rfl ?_;refine stB3 7 _ B7 G7 ?_ (HB:=HB.out);intro w6 b1 HB1 kb;replace B2:=kbB B2 (N27.out) kb;replace B4:=kbB B4 (N47.out) kb;replace HB:=am HB1;clear b1 HB1 kb B7;clear z0 z1 z2 z3 f0 f1 f2 f3 y0 y1 y2 k0 k1 k2;obtain ⟨⟨z0,z1,z2,z3⟩,f0,f1,f2,f3⟩:=cf4 B2.out;obtain ⟨⟨y0,y1,y2⟩,k0,k1,k2⟩:=cf3 B4.out))
    refine stt 12 (fun w' => (w'.cell? ⟨g2,1,none⟩ = some (.slice A1 ls.length c1) ∧ w'.cell? ⟨g2,2,none⟩ = some (.slice A2 l.length c2) ∧ w'.cell? ⟨g2,3,none⟩ = some (.slice A3 cs.length c3))) [10] _ _ t7_9 w7_9 ⟨z1,z2,z3⟩ fun w0 hb hS HT HW => ?_
    replace B2:=bbl g2 hb (h:=B2.out)
    replace B4:=bbl g4 hb (h:=B4.out)
    replace HB:=bst hb (h:=HB.out)
    clear hb
    clear z0 z1 z2 z3 f0 f1 f2 f3 y0 y1 y2 k0 k1 k2
    refine pu 0 ?_
    refine tk 1 ?_
    refine pu 2 ?_
    refine pu 4 ?_
    refine tk 5 ?_
    refine pu 6 ?_
    refine cal 3 Tryz.func23 #[.agg #[.slice A2 l.length c2,.slice A3 cs.length c3],.string key] ?_
    refine (HGET.out w0 HB.out).mono ?_
    rintro e w7 ⟨rfl,hb⟩
    replace B2:=bbl g2 hb (h:=B2.out)
    replace B4:=bbl g4 hb (h:=B4.out)
    replace HB:=bst hb (h:=HB.out)
    clear hb hS
    refine ⟨_,rfl,⟨hc 1 B2.out,hc 2 B2.out,hc 3 B2.out⟩,fun hS => nrm ?_⟩
    refine cal 7 Tryz.func22 #[.int .i64 (X:Int),.int .i64 (ls.length:Int)] ?_
    refine (HOF.out w7).mono ?_
    rintro e w8 ⟨F1,d1,F2,d2,rfl,RF1,RF2,hb⟩
    replace RF1:=rlo RF1 (h:=HB.out)
    replace RF2:=rlo RF2 (h:=HB.out)
    replace B2:=bbl g2 hb (h:=B2.out)
    replace B4:=bbl g4 hb (h:=B4.out)
    replace HB:=bst hb (h:=HB.out)
    clear hb hS
    refine ⟨_,rfl,⟨hc 1 B2.out,hc 2 B2.out,hc 3 B2.out⟩,fun hS => nrm ?_⟩
    clear hS
    obtain ⟨⟨y0,y1,y2⟩,k0,k1,k2⟩:=cf3 B4.out
    refine pu 8 ?_
    refine pu 9 ?_
    refine lst0 10 ?_
    refine pu 11 ?_
    refine dne ?_
    go_wp2
    refine bodyPost_ret (results_ct rfl _ _ g4 34 #[.bool false,.slice F1 (ND.digs N).length d1,.slice F2 (ND.digs M).length d2] (0,0) _ rfl (set3 B4.out) Tryz.underlying34 rfl (by kernel_rfl)) rfl ?_
    exact ⟨F1,d1,F2,d2,rfl,rx,rx,bel⟩
   ·have hr:rErr nm ls l cs key = P.keyErr key:=by unfold rErr;rw [if_pos hp,if_neg hl0]
    have hn:rN nm ls l cs key = 0:=by unfold rN;rw [if_neg (by rw [hr];exact hk)]
    have hm:rM nm ls l cs key = 0:=by unfold rM;rw [if_neg (by rw [hr];exact hk)]
    rw [hr,hn,hm]
    have hkb:(P.keyErr key != 0) = true:=bne_iff_ne.2 hk
    have HK:=am (fun (W:World) => add_nil key W)
    generalize P.keyErr key = r at *
    clear hr hn hm hp hok hls hl0 hr1 hr2 hr3 hc1 hc2 hc3 hk
    go_enter Tryz.func6,Tryz.ntmps6
    go_wp2_with (first
     | ((with_reducible refine gate_dst (N:=2) rfl ?_);refine bxe 2 #[.string nm,.slice A1 ls.length c1,.slice A2 l.length c2,.slice A3 cs.length c3] 28 ?_;intro g2 eg w1 b1 hb;have B2:=am b1;replace HB:=bst hb (h:=HB.out);clear hb b1 eg;obtain ⟨⟨z0,z1,z2,z3⟩,f0,f1,f2,f3⟩:=cf4 B2.out)
     | ((with_reducible refine gate_dst (N:=4) rfl ?_);refine bxe 4 #[.bool false,.slice none 0 0,.slice none 0 0] 34 ?_;intro g4 eg w2 b1 hb;have N24:=nel g2 eg (B2.out);have G4:Aside0 (w.heap.size ≤ g4):=szl eg (h:=HB.out);replace B2:=bbl g2 hb (h:=B2.out);have B4:=am b1;replace HB:=bst hb (h:=HB.out);clear hb b1 eg z0 z1 z2 z3 f0 f1 f2 f3;obtain ⟨⟨z0,z1,z2,z3⟩,f0,f1,f2,f3⟩:=cf4 B2.out;obtain ⟨⟨y0,y1,y2⟩,k0,k1,k2⟩:=cf3 B4.out)
     | (go_at_call 20;(with_reducible refine (HV.out _ HB.out).mono ?_);rintro e w3 ⟨rfl,hb⟩;replace B2:=bbl g2 hb (h:=B2.out);replace B4:=bbl g4 hb (h:=B4.out);replace HB:=bst hb (h:=HB.out);clear hb;clear z0 z1 z2 z3 f0 f1 f2 f3 y0 y1 y2 k0 k1 k2;obtain ⟨⟨z0,z1,z2,z3⟩,f0,f1,f2,f3⟩:=cf4 B2.out;obtain ⟨⟨y0,y1,y2⟩,k0,k1,k2⟩:=cf3 B4.out)
     | (go_at_call 21;(with_reducible refine (HK.out _).mono ?_);rintro e w4 ⟨T1,T2,rfl,hb⟩;replace B2:=bbl g2 hb (h:=B2.out);replace B4:=bbl g4 hb (h:=B4.out);replace HB:=bst hb (h:=HB.out);clear hb;clear z0 z1 z2 z3 f0 f1 f2 f3 y0 y1 y2 k0 k1 k2;obtain ⟨⟨z0,z1,z2,z3⟩,f0,f1,f2,f3⟩:=cf4 B2.out;obtain ⟨⟨y0,y1,y2⟩,k0,k1,k2⟩:=cf3 B4.out)
     | ((with_reducible refine gate_dst (N:=7) rfl ?_);refine bxe 7 #[.slice none 0 0,.slice none 0 0] 26 ?_;intro g7 eg w5 b1 hb;have N27:=nel g2 eg (B2.out);have N47:=nel g4 eg (B4.out);have G7:Aside0 (w.heap.size ≤ g7):=szl eg (h:=HB.out);replace B2:=bbl g2 hb (h:=B2.out);replace B4:=bbl g4 hb (h:=B4.out);have B7:=am b1;replace HB:=bst hb (h:=HB.out);clear hb b1 eg;clear z0 z1 z2 z3 f0 f1 f2 f3 y0 y1 y2 k0 k1 k2;obtain ⟨⟨z0,z1,z2,z3⟩,f0,f1,f2,f3⟩:=cf4 B2.out;obtain ⟨⟨y0,y1,y2⟩,k0,k1,k2⟩:=cf3 B4.out)
     | (refine gate_ (.store 26 (.tmp 7) (.tmp 24)) rfl ?_;refine stB3 7 _ B7 G7 ?_ (HB:=HB.out);intro w6 b1 HB1 kb;replace B2:=kbB B2 (N27.out) kb;replace B4:=kbB B4 (N47.out) kb;replace HB:=am HB1;clear b1 HB1 kb B7;clear z0 z1 z2 z3 f0 f1 f2 f3 y0 y1 y2 k0 k1 k2;obtain ⟨⟨z0,z1,z2,z3⟩,f0,f1,f2,f3⟩:=cf4 B2.out;obtain ⟨⟨y0,y1,y2⟩,k0,k1,k2⟩:=cf3 B4.out))
    refine bodyPost_ret (results_ct rfl _ _ g4 34 #[.bool false,.slice none 0 0,.slice none 0 0] (0,0) _ rfl (set3 B4.out) Tryz.underlying34 rfl (by kernel_rfl)) rfl ?_
    exact retFE0 (below_set (below_set (below_set HB.out G4.out) G4.out) G4.out)
 ·have hr:rErr nm ls l cs key = P.proErr nm ls l cs:=by unfold rErr;rw [if_neg hp]
  have hn:rN nm ls l cs key = 0:=by unfold rN;rw [if_neg (by rw [hr];exact hp)]
  have hm:rM nm ls l cs key = 0:=by unfold rM;rw [if_neg (by rw [hr];exact hp)]
  rw [hr,hn,hm]
  have hpb:(P.proErr nm ls l cs != 0) = true:=bne_iff_ne.2 hp
  generalize P.proErr nm ls l cs = r at *
  clear hr hn hm hp hr1 hr2 hr3 hc1 hc2 hc3
  go_enter Tryz.func6,Tryz.ntmps6
  go_wp2_with (first
   | ((with_reducible refine gate_dst (N:=2) rfl ?_);refine bxe 2 #[.string nm,.slice A1 ls.length c1,.slice A2 l.length c2,.slice A3 cs.length c3] 28 ?_;intro g2 eg w1 b1 hb;have B2:=am b1;replace HB:=bst hb (h:=HB.out);clear hb b1 eg;obtain ⟨⟨z0,z1,z2,z3⟩,f0,f1,f2,f3⟩:=cf4 B2.out)
   | ((with_reducible refine gate_dst (N:=4) rfl ?_);refine bxe 4 #[.bool false,.slice none 0 0,.slice none 0 0] 34 ?_;intro g4 eg w2 b1 hb;have N24:=nel g2 eg (B2.out);have G4:Aside0 (w.heap.size ≤ g4):=szl eg (h:=HB.out);replace B2:=bbl g2 hb (h:=B2.out);have B4:=am b1;replace HB:=bst hb (h:=HB.out);clear hb b1 eg z0 z1 z2 z3 f0 f1 f2 f3;obtain ⟨⟨z0,z1,z2,z3⟩,f0,f1,f2,f3⟩:=cf4 B2.out;obtain ⟨⟨y0,y1,y2⟩,k0,k1,k2⟩:=cf3 B4.out)
   | (go_at_call 20;(with_reducible refine (HV.out _ HB.out).mono ?_);rintro e w3 ⟨rfl,hb⟩;replace B2:=bbl g2 hb (h:=B2.out);replace B4:=bbl g4 hb (h:=B4.out);replace HB:=bst hb (h:=HB.out);clear hb;clear z0 z1 z2 z3 f0 f1 f2 f3 y0 y1 y2 k0 k1 k2;obtain ⟨⟨z0,z1,z2,z3⟩,f0,f1,f2,f3⟩:=cf4 B2.out;obtain ⟨⟨y0,y1,y2⟩,k0,k1,k2⟩:=cf3 B4.out))
  refine bodyPost_ret (results_ct rfl _ _ g4 34 #[.bool false,.slice none 0 0,.slice none 0 0] (0,0) _ rfl (set3 B4.out) Tryz.underlying34 rfl (by kernel_rfl)) rfl ?_
  exact retFE0 (below_set (below_set (below_set HB.out G4.out) G4.out) G4.out)
theorem ref53_Rate.calls (nm:ByteArray) (A1:Option Addr) (c1:Nat) (ls:List S72) (A2:Option Addr) (c2:Nat) (l:List ByteArray) (A3:Option Addr) (c3:Nat) (cs:List Int) (key:ByteArray) (w:World) (hr1:Kd.C k72 w A1 ls.length ls) (hc1:ls.length ≤ c1) (hr2:Kd.C Kd.string w A2 l.length l) (hc2:l.length ≤ c2) (hr3:Kd.C (Kd.int .i64) w A3 cs.length cs) (hc3:cs.length ≤ c3) :
  Calls Tryz.prog 8 #[.agg #[.string nm,.slice A1 ls.length c1,.slice A2 l.length c2,.slice A3 cs.length c3],.string key] w fun e w' => RetFE w w' e (rN nm ls l cs key) (rM nm ls l cs key) (rErr nm ls l cs key):=by
 have hu34:=Tryz.underlying34
 have hu28:=Tryz.underlying28
 have hu26:=Tryz.underlying26
 have HR1:=am hr1
 have HR2:=am hr2
 have HR3:=am hr3
 have HB:=am (Below.refl w.heap.size w)
 have HV:=am (fun (W:World) (h:Below w.heap.size w W) => ancepsref53_Valid.calls 10000 nm A1 c1 ls A2 c2 l A3 c3 cs (P.proErr nm ls l cs) W (Kd.C_below hr1 h) hc1 (Kd.C_below hr2 h) hc2 (Kd.C_below hr3 h) hc3 (P.proR nm ls l cs 10000 (Nat.le_refl _)))
 have HK:=am (fun (W:World) => ancepsref50_Key.calls 1000 key (P.keyErr key) W (P.keyR key 1000 (Nat.le_refl _)))
 by_cases hp:P.proErr nm ls l cs = 0
 ·have hok:=P.talErr_zero l cs (P.proErr_zero hp).2
  have hls:=(P.proErr_zero hp).1
  rw [hp] at HV
  by_cases hl0:ls.length = 0
  ·have hr:rErr nm ls l cs key = 7:=by unfold rErr;rw [if_pos hp,if_pos hl0]
   have hn:rN nm ls l cs key = 0:=by unfold rN;rw [if_neg (by rw [hr];decide)]
   have hm:rM nm ls l cs key = 0:=by unfold rM;rw [if_neg (by rw [hr];decide)]
   rw [hr,hn,hm]
   have hz:((ls.length:Int) == 0) = true:=beq_iff_eq.2 (by omega)
   clear hr hn hm hp hok hls hl0 hr1 hr2 hr3 hc1 hc2 hc3
   go_enter Tryz.func8,Tryz.ntmps8
   go_wp2_with (first
    | ((with_reducible refine gate_dst (N:=2) rfl ?_);refine bxe 2 #[.string nm,.slice A1 ls.length c1,.slice A2 l.length c2,.slice A3 cs.length c3] 28 ?_;intro g2 eg w1 b1 hb;have B2:=am b1;replace HB:=bst hb (h:=HB.out);clear hb b1 eg;obtain ⟨⟨z0,z1,z2,z3⟩,f0,f1,f2,f3⟩:=cf4 B2.out)
    | ((with_reducible refine gate_dst (N:=4) rfl ?_);refine bxe 4 #[.bool false,.slice none 0 0,.slice none 0 0] 34 ?_;intro g4 eg w2 b1 hb;have N24:=nel g2 eg (B2.out);have G4:Aside0 (w.heap.size ≤ g4):=szl eg (h:=HB.out);replace B2:=bbl g2 hb (h:=B2.out);have B4:=am b1;replace HB:=bst hb (h:=HB.out);clear hb b1 eg z0 z1 z2 z3 f0 f1 f2 f3;obtain ⟨⟨z0,z1,z2,z3⟩,f0,f1,f2,f3⟩:=cf4 B2.out;obtain ⟨⟨y0,y1,y2⟩,k0,k1,k2⟩:=cf3 B4.out)
    | (go_at_call 27;(with_reducible refine (HV.out _ HB.out).mono ?_);rintro e w3 ⟨rfl,hb⟩;replace B2:=bbl g2 hb (h:=B2.out);replace B4:=bbl g4 hb (h:=B4.out);replace HB:=bst hb (h:=HB.out);clear hb;clear z0 z1 z2 z3 f0 f1 f2 f3 y0 y1 y2 k0 k1 k2;obtain ⟨⟨z0,z1,z2,z3⟩,f0,f1,f2,f3⟩:=cf4 B2.out;obtain ⟨⟨y0,y1,y2⟩,k0,k1,k2⟩:=cf3 B4.out))
   refine bodyPost_ret (results_ct rfl _ _ g4 34 #[.bool false,.slice none 0 0,.slice none 0 0] (0,0) _ rfl (set3 B4.out) Tryz.underlying34 rfl (by kernel_rfl)) rfl ?_
   exact retFE0 (below_set (below_set (below_set HB.out G4.out) G4.out) G4.out)
  ·have hz:((ls.length:Int) == 0) = false:=beq_eq_false_iff_ne.2 (by omega)
   by_cases hk:P.keyErr key = 0
   ·have hr:rErr nm ls l cs key = 0:=by unfold rErr;rw [if_pos hp,if_neg hl0,hk]
    have hn:rN nm ls l cs key = rCnt l cs key / Nat.gcd (rCnt l cs key) ls.length:=by unfold rN;rw [if_pos hr]
    have hm:rM nm ls l cs key = ls.length / Nat.gcd (rCnt l cs key) ls.length:=by unfold rM;rw [if_pos hr]
    rw [hr,hn,hm]
    have hcnt:=cnt_law hok key
    rw [hk] at HK
    have HGET:=am (fun (W:World) (h:Below w.heap.size w W) => ancepsref50_Get.calls 5001 A2 c2 l A3 c3 cs key _ W (Kd.C_below hr2 h) hc2 (Kd.C_below hr3 h) hc3 (P.get_f l cs key hok.len (by have:=hok.few;omega) 5001 (Nat.le_refl _)))
    rw [hcnt.1] at HGET
    have HOF:=am (fun (W:World) => ref03_Of.calls (rCnt l cs key) ls.length W (by have:=hcnt.2;omega) (by omega) (by omega))
    generalize rCnt l cs key / Nat.gcd (rCnt l cs key) ls.length = N at *
    generalize ls.length / Nat.gcd (rCnt l cs key) ls.length = M at *
    generalize rCnt l cs key = X at *
    clear hr hn hm hp hok hls hl0 hr1 hr2 hr3 hc1 hc2 hc3 hcnt hk
    go_enter Tryz.func8,Tryz.ntmps8
    go_wp2_with (first
     | ((with_reducible refine gate_dst (N:=2) rfl ?_);refine bxe 2 #[.string nm,.slice A1 ls.length c1,.slice A2 l.length c2,.slice A3 cs.length c3] 28 ?_;intro g2 eg w1 b1 hb;have B2:=am b1;replace HB:=bst hb (h:=HB.out);clear hb b1 eg;obtain ⟨⟨z0,z1,z2,z3⟩,f0,f1,f2,f3⟩:=cf4 B2.out)
     | ((with_reducible refine gate_dst (N:=4) rfl ?_);refine bxe 4 #[.bool false,.slice none 0 0,.slice none 0 0] 34 ?_;intro g4 eg w2 b1 hb;have N24:=nel g2 eg (B2.out);have G4:Aside0 (w.heap.size ≤ g4):=szl eg (h:=HB.out);replace B2:=bbl g2 hb (h:=B2.out);have B4:=am b1;replace HB:=bst hb (h:=HB.out);clear hb b1 eg z0 z1 z2 z3 f0 f1 f2 f3;obtain ⟨⟨z0,z1,z2,z3⟩,f0,f1,f2,f3⟩:=cf4 B2.out;obtain ⟨⟨y0,y1,y2⟩,k0,k1,k2⟩:=cf3 B4.out)
     | (go_at_call 27;(with_reducible refine (HV.out _ HB.out).mono ?_);rintro e w3 ⟨rfl,hb⟩;replace B2:=bbl g2 hb (h:=B2.out);replace B4:=bbl g4 hb (h:=B4.out);replace HB:=bst hb (h:=HB.out);clear hb;clear z0 z1 z2 z3 f0 f1 f2 f3 y0 y1 y2 k0 k1 k2;obtain ⟨⟨z0,z1,z2,z3⟩,f0,f1,f2,f3⟩:=cf4 B2.out;obtain ⟨⟨y0,y1,y2⟩,k0,k1,k2⟩:=cf3 B4.out)
     | (go_at_call 28;(with_reducible refine (HK.out _).mono ?_);rintro e w4 ⟨rfl,hd⟩;have hb:=hd.below;replace B2:=bbl g2 hb (h:=B2.out);replace B4:=bbl g4 hb (h:=B4.out);replace HB:=bst hb (h:=HB.out);clear hb hd;clear z0 z1 z2 z3 f0 f1 f2 f3 y0 y1 y2 k0 k1 k2;obtain ⟨⟨z0,z1,z2,z3⟩,f0,f1,f2,f3⟩:=cf4 B2.out;obtain ⟨⟨y0,y1,y2⟩,k0,k1,k2⟩:=cf3 B4.out))
    refine stt 12 (fun w' => (w'.cell? ⟨g2,1,none⟩ = some (.slice A1 ls.length c1) ∧ w'.cell? ⟨g2,2,none⟩ = some (.slice A2 l.length c2) ∧ w'.cell? ⟨g2,3,none⟩ = some (.slice A3 cs.length c3))) [10] _ _ t9_9 w9_9 ⟨z1,z2,z3⟩ fun w0 hb hS HT HW => ?_
    replace B2:=bbl g2 hb (h:=B2.out)
    replace B4:=bbl g4 hb (h:=B4.out)
    replace HB:=bst hb (h:=HB.out)
    clear hb
    clear z0 z1 z2 z3 f0 f1 f2 f3 y0 y1 y2 k0 k1 k2
    refine pu 0 ?_
    refine tk 1 ?_
    refine pu 2 ?_
    refine pu 4 ?_
    refine tk 5 ?_
    refine pu 6 ?_
    refine cal 3 Tryz.func29 #[.agg #[.slice A2 l.length c2,.slice A3 cs.length c3],.string key] ?_
    refine (HGET.out w0 HB.out).mono ?_
    rintro e w7 ⟨rfl,hb⟩
    replace B2:=bbl g2 hb (h:=B2.out)
    replace B4:=bbl g4 hb (h:=B4.out)
    replace HB:=bst hb (h:=HB.out)
    clear hb hS
    refine ⟨_,rfl,⟨hc 1 B2.out,hc 2 B2.out,hc 3 B2.out⟩,fun hS => nrm ?_⟩
    refine cal 7 Tryz.func17 #[.int .i64 (X:Int),.int .i64 (ls.length:Int)] ?_
    refine (HOF.out w7).mono ?_
    rintro e w8 ⟨F1,d1,F2,d2,rfl,RF1,RF2,hb⟩
    replace RF1:=rlo RF1 (h:=HB.out)
    replace RF2:=rlo RF2 (h:=HB.out)
    replace B2:=bbl g2 hb (h:=B2.out)
    replace B4:=bbl g4 hb (h:=B4.out)
    replace HB:=bst hb (h:=HB.out)
    clear hb hS
    refine ⟨_,rfl,⟨hc 1 B2.out,hc 2 B2.out,hc 3 B2.out⟩,fun hS => nrm ?_⟩
    clear hS
    obtain ⟨⟨y0,y1,y2⟩,k0,k1,k2⟩:=cf3 B4.out
    refine pu 8 ?_
    refine pu 9 ?_
    refine lst0 10 ?_
    refine pu 11 ?_
    refine dne ?_
    go_wp2
    refine bodyPost_ret (results_ct rfl _ _ g4 34 #[.bool false,.slice F1 (ND.digs N).length d1,.slice F2 (ND.digs M).length d2] (0,0) _ rfl (set3 B4.out) Tryz.underlying34 rfl (by kernel_rfl)) rfl ?_
    exact ⟨F1,d1,F2,d2,rfl,rx,rx,bel⟩
   ·have hr:rErr nm ls l cs key = P.keyErr key:=by unfold rErr;rw [if_pos hp,if_neg hl0]
    have hn:rN nm ls l cs key = 0:=by unfold rN;rw [if_neg (by rw [hr];exact hk)]
    have hm:rM nm ls l cs key = 0:=by unfold rM;rw [if_neg (by rw [hr];exact hk)]
    rw [hr,hn,hm]
    have hkb:(P.keyErr key != 0) = true:=bne_iff_ne.2 hk
    generalize P.keyErr key = r at *
    clear hr hn hm hp hok hls hl0 hr1 hr2 hr3 hc1 hc2 hc3 hk
    go_enter Tryz.func8,Tryz.ntmps8
    go_wp2_with (first
     | ((with_reducible refine gate_dst (N:=2) rfl ?_);refine bxe 2 #[.string nm,.slice A1 ls.length c1,.slice A2 l.length c2,.slice A3 cs.length c3] 28 ?_;intro g2 eg w1 b1 hb;have B2:=am b1;replace HB:=bst hb (h:=HB.out);clear hb b1 eg;obtain ⟨⟨z0,z1,z2,z3⟩,f0,f1,f2,f3⟩:=cf4 B2.out)
     | ((with_reducible refine gate_dst (N:=4) rfl ?_);refine bxe 4 #[.bool false,.slice none 0 0,.slice none 0 0] 34 ?_;intro g4 eg w2 b1 hb;have N24:=nel g2 eg (B2.out);have G4:Aside0 (w.heap.size ≤ g4):=szl eg (h:=HB.out);replace B2:=bbl g2 hb (h:=B2.out);have B4:=am b1;replace HB:=bst hb (h:=HB.out);clear hb b1 eg z0 z1 z2 z3 f0 f1 f2 f3;obtain ⟨⟨z0,z1,z2,z3⟩,f0,f1,f2,f3⟩:=cf4 B2.out;obtain ⟨⟨y0,y1,y2⟩,k0,k1,k2⟩:=cf3 B4.out)
     | (go_at_call 27;(with_reducible refine (HV.out _ HB.out).mono ?_);rintro e w3 ⟨rfl,hb⟩;replace B2:=bbl g2 hb (h:=B2.out);replace B4:=bbl g4 hb (h:=B4.out);replace HB:=bst hb (h:=HB.out);clear hb;clear z0 z1 z2 z3 f0 f1 f2 f3 y0 y1 y2 k0 k1 k2;obtain ⟨⟨z0,z1,z2,z3⟩,f0,f1,f2,f3⟩:=cf4 B2.out;obtain ⟨⟨y0,y1,y2⟩,k0,k1,k2⟩:=cf3 B4.out)
     | (go_at_call 28;(with_reducible refine (HK.out _).mono ?_);rintro e w4 ⟨rfl,hd⟩;have hb:=hd.below;replace B2:=bbl g2 hb (h:=B2.out);replace B4:=bbl g4 hb (h:=B4.out);replace HB:=bst hb (h:=HB.out);clear hb hd;clear z0 z1 z2 z3 f0 f1 f2 f3 y0 y1 y2 k0 k1 k2;obtain ⟨⟨z0,z1,z2,z3⟩,f0,f1,f2,f3⟩:=cf4 B2.out;obtain ⟨⟨y0,y1,y2⟩,k0,k1,k2⟩:=cf3 B4.out))
    refine bodyPost_ret (results_ct rfl _ _ g4 34 #[.bool false,.slice none 0 0,.slice none 0 0] (0,0) _ rfl (set3 B4.out) Tryz.underlying34 rfl (by kernel_rfl)) rfl ?_
    exact retFE0 (below_set (below_set (below_set HB.out G4.out) G4.out) G4.out)
 ·have hr:rErr nm ls l cs key = P.proErr nm ls l cs:=by unfold rErr;rw [if_neg hp]
  have hn:rN nm ls l cs key = 0:=by unfold rN;rw [if_neg (by rw [hr];exact hp)]
  have hm:rM nm ls l cs key = 0:=by unfold rM;rw [if_neg (by rw [hr];exact hp)]
  rw [hr,hn,hm]
  have hpb:(P.proErr nm ls l cs != 0) = true:=bne_iff_ne.2 hp
  generalize P.proErr nm ls l cs = r at *
  clear hr hn hm hp hr1 hr2 hr3 hc1 hc2 hc3
  go_enter Tryz.func8,Tryz.ntmps8
  go_wp2_with (first
   | ((with_reducible refine gate_dst (N:=2) rfl ?_);refine bxe 2 #[.string nm,.slice A1 ls.length c1,.slice A2 l.length c2,.slice A3 cs.length c3] 28 ?_;intro g2 eg w1 b1 hb;have B2:=am b1;replace HB:=bst hb (h:=HB.out);clear hb b1 eg;obtain ⟨⟨z0,z1,z2,z3⟩,f0,f1,f2,f3⟩:=cf4 B2.out)
   | ((with_reducible refine gate_dst (N:=4) rfl ?_);refine bxe 4 #[.bool false,.slice none 0 0,.slice none 0 0] 34 ?_;intro g4 eg w2 b1 hb;have N24:=nel g2 eg (B2.out);have G4:Aside0 (w.heap.size ≤ g4):=szl eg (h:=HB.out);replace B2:=bbl g2 hb (h:=B2.out);have B4:=am b1;replace HB:=bst hb (h:=HB.out);clear hb b1 eg z0 z1 z2 z3 f0 f1 f2 f3;obtain ⟨⟨z0,z1,z2,z3⟩,f0,f1,f2,f3⟩:=cf4 B2.out;obtain ⟨⟨y0,y1,y2⟩,k0,k1,k2⟩:=cf3 B4.out)
   | (go_at_call 27;(with_reducible refine (HV.out _ HB.out).mono ?_);rintro e w3 ⟨rfl,hb⟩;replace B2:=bbl g2 hb (h:=B2.out);replace B4:=bbl g4 hb (h:=B4.out);replace HB:=bst hb (h:=HB.out);clear hb;clear z0 z1 z2 z3 f0 f1 f2 f3 y0 y1 y2 k0 k1 k2;obtain ⟨⟨z0,z1,z2,z3⟩,f0,f1,f2,f3⟩:=cf4 B2.out;obtain ⟨⟨y0,y1,y2⟩,k0,k1,k2⟩:=cf3 B4.out))
  refine bodyPost_ret (results_ct rfl _ _ g4 34 #[.bool false,.slice none 0 0,.slice none 0 0] (0,0) _ rfl (set3 B4.out) Tryz.underlying34 rfl (by kernel_rfl)) rfl ?_
  exact retFE0 (below_set (below_set (below_set HB.out G4.out) G4.out) G4.out)
end Go.Proofs.YtnbcnoabbdegpaaGreatDoor.V
