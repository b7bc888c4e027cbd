/- A part of the proof of the tied card of ProfileRate (chapter 53): the law returns true whatever the input. -/
import Derived.Test.YtnbcnoabbdegpaaGreatDoorZD2
set_option linter.unusedVariables false
set_option linter.unusedSimpArgs false
namespace Go.Proofs.YtnbcnoabbdegpaaGreatDoor.V
open Go.RowKit Go.Proofs.YtnbcnoabbdegpaaGreatDoorW.PrintWords Go.Proofs.YtnbcnoabbdegpaaGreatDoorW.PrintLast Go.Proofs.YtnbcnoabbdegpaaGreatDoorW.PrintMore
attribute [local go_sem] max2_int min2_int max_two min_two
set_option linter.unusedVariables false
set_option linter.unusedSimpArgs false
set_option maxHeartbeats 8000000
set_option maxRecDepth 100000
theorem cf1 {w:World} {g:Nat} {t:TypeId} {a:Value} (h:w.heap[g]? = some (.cells #[a] t (0,0))):w.cell? ⟨g,0,none⟩ = some a ∧ w.frozen? ⟨g,0,none⟩ = false:=⟨c0 h,blk_frozen h 0⟩
theorem set1 {w:World} {g:Nat} {t:TypeId} {a a':Value} (h:w.heap[g]? = some (.cells #[a] t (0,0))):(w.setCell ⟨g,0,none⟩ a').heap[g]? = some (.cells #[a'] t (0,0)):=blk_put h 0 a' rfl
def RetN (w0 w w':World) (e:Ending) (n:Nat):Prop:=∃ A c,e = .returned (.agg #[.slice A (ND.digs n).length c]) ∧ RI w' w0 (.slice A (ND.digs n).length c) (ND.digs n) ∧ Below w.heap.size w w'
theorem natural_of.calls (A:Option Addr) (c:Nat) (l:List Int) (w0 w:World) (hr:RI w w0 (.slice A l.length c) l) (hb:Below w0.heap.size w0 w) (ok:ND.ok l) :
  Calls Tryz.prog 195 #[.slice A l.length c] w fun e w' => RetN w0 w w' e (ND.val l):=by
 have hu32:=Tryz.underlying32
 have R1:=am hr
 have H0:=am hb
 have HB:=am (Below.refl w.heap.size w)
 have HT:=am (fun (W:World) (h:CI W A l) => natural_trimmed.calls A c l W h (rL R1))
 have RT:=am (fun (W:World) (h:RI W w0 (.slice A l.length c) l) => rtk h ok)
 rw [ND.tl_len ok] at HT RT
 clear hr hb
 generalize ND.val l = n at *
 go_enter Tryz.func195,Tryz.ntmps195
 go_wp2_with (first
  | ((with_reducible refine gate_dst (N:=2) rfl ?_);refine bxe 2 #[.slice none 0 0] 32 ?_;intro g eg w1 b1 hb;have G1:Aside0 (w.heap.size ≤ g):=szl eg;have B1:=am b1;replace HB:=bst hb (h:=HB.out);replace H0:=bst hb (h:=H0.out);replace R1:=rbl R1 hb;clear hb b1 eg;obtain ⟨z0,f0⟩:=cf1 B1.out)
  | (go_at_call 281;refine (HT.out w1 (rC R1)).mono ?_;rintro e w2 ⟨rfl,⟨nd,rfl⟩⟩;replace R1:=am (RT.out _ (Kd.R_drewN R1.out nd));clear HT RT))
 ·have hd:ND.digs n = []:=List.length_eq_zero_iff.1 (by have:=eq_of_beq (show (((ND.digs n).length:Int) == 0) = true by assumption);omega)
  refine bodyPost_ret (results_cell_row rfl _ _ g 32 #[.slice none 0 0] (0,0) _ rfl (set1 sb) Tryz.underlying32 rfl (by kernel_rfl)) rfl ?_
  exact ⟨none,0,by rw [hd];rfl,by rw [hd];exact Kd.R_nil _ _ _ _ _,bel⟩
 ·refine bodyPost_ret (results_cell_row rfl _ _ g 32 #[.slice A (ND.digs n).length c] (0,0) _ rfl (set1 sb) Tryz.underlying32 rfl (by kernel_rfl)) rfl ?_
  exact ⟨A,c,rfl,rx,bel⟩
theorem natural_Of.calls (n:Nat) (w:World) (hn:n < 1000000000000000000) :
  Calls Tryz.prog 116 #[.int .i64 (n:Int)] w fun e w' => ∃ A c,e = .returned (.tuple #[.agg #[.slice A (ND.digs n).length c],.int .i64 0]) ∧ RI w' w (.slice A (ND.digs n).length c) (ND.digs n) ∧ Below w.heap.size w w':=by
 have hu32:=Tryz.underlying32
 have HB:=am (Below.refl w.heap.size w)
 have HN:=am hn
 clear hn
 go_enter Tryz.func116,Tryz.ntmps116
 go_wp2_with ((with_reducible refine gate_dst (N:=2) rfl ?_);refine bxe 2 #[.slice none 0 0] 32 ?_;intro g eg w1 b1 hb;have G1:Aside0 (w.heap.size ≤ g):=szl eg;have B1:=am b1;replace HB:=bst hb (h:=HB.out);clear hb b1 eg;obtain ⟨z0,f0⟩:=cf1 B1.out)
 go_loopg [0,4] n (fun k v0 v4 w' => ∃ (m:Nat) (out:List Int),v0 = .int .i64 (m:Int) ∧ m ≤ k ∧ Aside0 (RI w' w v4 out) ∧ Aside0 (Below w.heap.size w w') ∧ Aside0 (w'.heap[g]? = some (.cells #[.slice none 0 0] 32 (0,0))) ∧ Aside0 (ND.digs n = out ++ ND.digs m))
 case atStart => exact ⟨n,[],rfl,Nat.le_refl _,⟨Kd.R_nil _ _ _ _ _⟩,HB,B1,⟨by simp⟩⟩
 case round =>
  clear z0 f0 B1
  obtain ⟨m,out,rfl,h1,R4,HB2,B1,D⟩:=hrel
  replace HB:=HB2
  clear HB2
  have hn:=HN.out
  obtain ⟨z0,f0⟩:=cf1 B1.out
  cases m with
  | zero =>
   have hD:=D.out
   rw [ND.digs0,List.append_nil] at hD
   subst hD
   obtain ⟨A,c,e⟩:=Kd.R_slice R4.out
   subst e
   have HO:=am (natural_of.calls A c (ND.digs n) w wr R4.out HB.out (ND.ok_digs n))
   rw [ND.val_digs] at HO
   clear D
   go_wp2_with (go_at_call 195;refine HO.out.mono ?_;rintro e w5 ⟨A2,c2,rfl,RX,BX⟩;replace HB:=bst BX (h:=HB.out);replace B1:=bbl g BX;replace RX:=am RX;clear BX z0 f0 R4 HO;obtain ⟨z0,f0⟩:=cf1 B1.out)
   refine bodyPost_ret (results_ct rfl _ _ g 32 #[.slice A2 (ND.digs n).length c2] (0,0) _ rfl (set1 sb) Tryz.underlying32 rfl (by kernel_rfl)) rfl ?_
   exact ⟨A2,c2,rfl,rx,bel⟩
  | succ m =>
   have LL:=am (show out.length < 17592186044416 by
    have h:=congrArg List.length D.out
    rw [List.length_append] at h
    have h5:(ND.digs n).length ≤ 5:=ND.digs_length (by omega)
    omega)
   have e1:((m + 1:Nat):Int).tmod 10000 = (((m + 1) % 10000:Nat):Int):=by rw [Int.tmod_eq_emod_of_nonneg (by omega)];omega
   have e2:((m + 1:Nat):Int).tdiv 10000 = (((m + 1) / 10000:Nat):Int):=by rw [Int.tdiv_eq_ediv_of_nonneg (by omega)];omega
   have D2:=am (show ND.digs n = (out ++ [(((m + 1) % 10000:Nat):Int)]) ++ ND.digs ((m + 1) / 10000) by rw [D.out,ND.digs_pos (n:=m + 1) (by omega)];simp)
   have hd:(m + 1) / 10000 ≤ m:=by omega
   have hmn:m + 1 ≤ n:=by
    have h:=congrArg ND.val D.out
    rw [ND.val_append,ND.val_digs,ND.val_digs] at h
    have h2:=Nat.mul_le_mul_right (m + 1) (Nat.pow_pos (a:=10000) (n:=out.length) (by omega):0 < 10000 ^ out.length)
    omega
   generalize (m + 1) % 10000 = p at e1 D2
   generalize (m + 1) / 10000 = u at e2 D2 hd
   generalize hM:m + 1 = M at *
   go_wp2_with (first | ((with_reducible refine gate_builtin (b:=.append) (xs:=#[.tmp 12,.tmp 15]) rfl ?_);at_builtin;refine apI 12 15 R4 LL ?_;intro v1 w5 ho HB1 hs hg;replace B1:=bgr g hs hg;replace R4:=ho;replace HB:=HB1;clear ho HB1 hs hg))
   go_roundg u
   case measure => omega
   case rel => exact ⟨u,_,rfl,Nat.le_refl _,R4,HB,B1,D2⟩
theorem ref02_Of.calls (n:Nat) (w:World) (hn:n < 1000000000000000000) :
  Calls Tryz.prog 186 #[.int .i64 (n:Int)] w fun e w' => ∃ A c,e = .returned (.tuple #[.agg #[.slice A (ND.digs n).length c],.int .i64 0]) ∧ RI w' w (.slice A (ND.digs n).length c) (ND.digs n) ∧ Below w.heap.size w w':=by
 have hu32:=Tryz.underlying32
 have HB:=am (Below.refl w.heap.size w)
 have HN:=am hn
 clear hn
 go_enter Tryz.func186,Tryz.ntmps186
 go_wp2_with ((with_reducible refine gate_dst (N:=2) rfl ?_);refine bxe 2 #[.slice none 0 0] 32 ?_;intro g eg w1 b1 hb;have G1:Aside0 (w.heap.size ≤ g):=szl eg;have B1:=am b1;replace HB:=bst hb (h:=HB.out);clear hb b1 eg;obtain ⟨z0,f0⟩:=cf1 B1.out)
 go_loopg [0,4] n (fun k v0 v4 w' => ∃ (m:Nat) (out:List Int),v0 = .int .i64 (m:Int) ∧ m ≤ k ∧ Aside0 (RI w' w v4 out) ∧ Aside0 (Below w.heap.size w w') ∧ Aside0 (w'.heap[g]? = some (.cells #[.slice none 0 0] 32 (0,0))) ∧ Aside0 (ND.digs n = out ++ ND.digs m))
 case atStart => exact ⟨n,[],rfl,Nat.le_refl _,⟨Kd.R_nil _ _ _ _ _⟩,HB,B1,⟨by simp⟩⟩
 case round =>
  clear z0 f0 B1
  obtain ⟨m,out,rfl,h1,R4,HB2,B1,D⟩:=hrel
  replace HB:=HB2
  clear HB2
  have hn:=HN.out
  obtain ⟨z0,f0⟩:=cf1 B1.out
  cases m with
  | zero =>
   have hD:=D.out
   rw [ND.digs0,List.append_nil] at hD
   subst hD
   obtain ⟨A,c,e⟩:=Kd.R_slice R4.out
   subst e
   clear D
   go_wp2
   refine bodyPost_ret (results_ct rfl _ _ g 32 #[.slice A (ND.digs n).length c] (0,0) _ rfl (set1 sb) Tryz.underlying32 rfl (by kernel_rfl)) rfl ?_
   exact ⟨A,c,rfl,rx,bel⟩
  | succ m =>
   have LL:=am (show out.length < 17592186044416 by
    have h:=congrArg List.length D.out
    rw [List.length_append] at h
    have h5:(ND.digs n).length ≤ 5:=ND.digs_length (by omega)
    omega)
   have e1:((m + 1:Nat):Int).tmod 10000 = (((m + 1) % 10000:Nat):Int):=by rw [Int.tmod_eq_emod_of_nonneg (by omega)];omega
   have e2:((m + 1:Nat):Int).tdiv 10000 = (((m + 1) / 10000:Nat):Int):=by rw [Int.tdiv_eq_ediv_of_nonneg (by omega)];omega
   have D2:=am (show ND.digs n = (out ++ [(((m + 1) % 10000:Nat):Int)]) ++ ND.digs ((m + 1) / 10000) by rw [D.out,ND.digs_pos (n:=m + 1) (by omega)];simp)
   have hd:(m + 1) / 10000 ≤ m:=by omega
   have hmn:m + 1 ≤ n:=by
    have h:=congrArg ND.val D.out
    rw [ND.val_append,ND.val_digs,ND.val_digs] at h
    have h2:=Nat.mul_le_mul_right (m + 1) (Nat.pow_pos (a:=10000) (n:=out.length) (by omega):0 < 10000 ^ out.length)
    omega
   generalize (m + 1) % 10000 = p at e1 D2
   generalize (m + 1) / 10000 = u at e2 D2 hd
   generalize hM:m + 1 = M at *
   go_wp2_with (first | ((with_reducible refine gate_builtin (b:=.append) (xs:=#[.tmp 10,.tmp 13]) rfl ?_);at_builtin;refine apI 10 13 R4 LL ?_;intro v1 w5 ho HB1 hs hg;replace B1:=bgr g hs hg;replace R4:=ho;replace HB:=HB1;clear ho HB1 hs hg))
   go_roundg u
   case measure => omega
   case rel => exact ⟨u,_,rfl,Nat.le_refl _,R4,HB,B1,D2⟩
theorem fraction_number.calls (n:Nat) (w:World) (hn:n < 1000000000000000000) :
  Calls Tryz.prog 53 #[.int .i64 (n:Int)] w fun e w' => RetN w w w' e n:=by
 have hu32:=Tryz.underlying32
 have HB:=am (Below.refl w.heap.size w)
 have HN:=am hn
 clear hn
 go_enter Tryz.func53,Tryz.ntmps53
 go_wp2_with (first
  | ((with_reducible refine gate_dst (N:=2) rfl ?_);refine bxe 2 #[.slice none 0 0] 32 ?_;intro g eg w1 b1 hb;have G1:Aside0 (w.heap.size ≤ g):=szl eg;have B1:=am b1;replace HB:=bst hb (h:=HB.out);clear hb b1 eg;obtain ⟨z0,f0⟩:=cf1 B1.out)
  | ((with_reducible refine gate_dst (N:=3) rfl ?_);refine bxe 3 #[.slice none 0 0] 32 ?_;intro g3 eg w3 b1 hb;have N12:=nel g eg;have N21:=ner g eg;have n12:=N12.out;have n21:=N21.out;have G3:Aside0 (w.heap.size ≤ g3):=szl eg;replace B1:=bbl g hb;have B3:=am b1;replace HB:=bst hb (h:=HB.out);replace RX:=rbl RX hb;clear hb b1 eg z0 f0;obtain ⟨z0,f0⟩:=cf1 B1.out;obtain ⟨y0,k0⟩:=cf1 B3.out)
  | (go_at_call 116;refine (natural_Of.calls n w1 HN.out).mono ?_;rintro e w5 ⟨A,c,rfl,RX,BX⟩;replace RX:=rlo RX (h:=HB.out);replace HB:=bst BX (h:=HB.out);replace B1:=bbl g BX;clear BX z0 f0;obtain ⟨z0,f0⟩:=cf1 B1.out))
 refine bodyPost_ret (results_cell_row rfl _ _ g 32 #[.slice A (ND.digs n).length c] (0,0) _ rfl (set1 sb) Tryz.underlying32 rfl (by kernel_rfl)) rfl ?_
 exact ⟨A,c,rfl,rx,bel⟩
theorem ref02_small.calls (n:Nat) (w:World) (hn:n < 1000000000000000000) :
  Calls Tryz.prog 103 #[.int .i64 (n:Int)] w fun e w' => RetN w w w' e n:=by
 have hu32:=Tryz.underlying32
 have HB:=am (Below.refl w.heap.size w)
 have HN:=am hn
 clear hn
 go_enter Tryz.func103,Tryz.ntmps103
 go_wp2_with (first
  | ((with_reducible refine gate_dst (N:=2) rfl ?_);refine bxe 2 #[.slice none 0 0] 32 ?_;intro g eg w1 b1 hb;have G1:Aside0 (w.heap.size ≤ g):=szl eg;have B1:=am b1;replace HB:=bst hb (h:=HB.out);clear hb b1 eg;obtain ⟨z0,f0⟩:=cf1 B1.out)
  | ((with_reducible refine gate_dst (N:=3) rfl ?_);refine bxe 3 #[.slice none 0 0] 32 ?_;intro g3 eg w3 b1 hb;have N12:=nel g eg;have N21:=ner g eg;have n12:=N12.out;have n21:=N21.out;have G3:Aside0 (w.heap.size ≤ g3):=szl eg;replace B1:=bbl g hb;have B3:=am b1;replace HB:=bst hb (h:=HB.out);replace RX:=rbl RX hb;clear hb b1 eg z0 f0;obtain ⟨z0,f0⟩:=cf1 B1.out;obtain ⟨y0,k0⟩:=cf1 B3.out)
  | (go_at_call 186;refine (ref02_Of.calls n w1 HN.out).mono ?_;rintro e w5 ⟨A,c,rfl,RX,BX⟩;replace RX:=rlo RX (h:=HB.out);replace HB:=bst BX (h:=HB.out);replace B1:=bbl g BX;clear BX z0 f0;obtain ⟨z0,f0⟩:=cf1 B1.out))
 refine bodyPost_ret (results_cell_row rfl _ _ g 32 #[.slice A (ND.digs n).length c] (0,0) _ rfl (set1 sb) Tryz.underlying32 rfl (by kernel_rfl)) rfl ?_
 exact ⟨A,c,rfl,rx,bel⟩
theorem ref02_Small.calls (n:Nat) (w:World) (hn:n < 1000000000000000000) :
  Calls Tryz.prog 46 #[.int .i64 (n:Int)] w fun e w' => RetN w w w' e n:=by
 have hu32:=Tryz.underlying32
 have HB:=am (Below.refl w.heap.size w)
 have HN:=am hn
 clear hn
 have hmax:max (n:Int) 0 = (n:Int):=by omega
 go_enter Tryz.func46,Tryz.ntmps46
 go_wp2_with (first
  | ((with_reducible refine gate_dst (N:=2) rfl ?_);refine bxe 2 #[.slice none 0 0] 32 ?_;intro g eg w1 b1 hb;have G1:Aside0 (w.heap.size ≤ g):=szl eg;have B1:=am b1;replace HB:=bst hb (h:=HB.out);clear hb b1 eg;obtain ⟨z0,f0⟩:=cf1 B1.out)
  | (go_at_call 103;refine (ref02_small.calls n w1 HN.out).mono ?_;rintro e w5 ⟨A,c,rfl,RX,BX⟩;replace RX:=rlo RX (h:=HB.out);replace HB:=bst BX (h:=HB.out);replace B1:=bbl g BX;clear BX z0 f0;obtain ⟨z0,f0⟩:=cf1 B1.out))
 refine bodyPost_ret (results_cell_row rfl _ _ g 32 #[.slice A (ND.digs n).length c] (0,0) _ rfl (set1 sb) Tryz.underlying32 rfl (by kernel_rfl)) rfl ?_
 exact ⟨A,c,rfl,rx,bel⟩
theorem ref02_Cmp.calls (A B:Option Addr) (c d:Nat) (x y:Nat) (w:World) (ha:CI w A (ND.digs x)) (hb:CI w B (ND.digs y)) :
  Calls Tryz.prog 59 #[.agg #[.slice A (ND.digs x).length c],.agg #[.slice B (ND.digs y).length d]] w fun e w' => e = .returned (.int .i64 (cmpN x y)) ∧ Below w.heap.size w w':=by
 have hu32:=Tryz.underlying32
 have HA:=am ha
 have HC:=am hb
 have HB:=am (Below.refl w.heap.size w)
 clear ha hb
 go_enter Tryz.func59,Tryz.ntmps59
 go_wp2_with (first
  | ((with_reducible refine gate_dst (N:=2) rfl ?_);refine bx 2 #[.slice A (ND.digs x).length c] 32 ?_;intro g1 w1 b1 hb;replace HB:=bst hb (h:=HB.out);have B1:=am b1;clear hb b1;obtain ⟨z0,f0⟩:=cf1 B1.out)
  | ((with_reducible refine gate_dst (N:=3) rfl ?_);refine bx 3 #[.slice B (ND.digs y).length d] 32 ?_;intro g2 w2 b1 hb;replace HB:=bst hb (h:=HB.out);replace B1:=bbl g1 hb;have B2:=am b1;clear hb b1 z0 f0;obtain ⟨z0,f0⟩:=cf1 B1.out;obtain ⟨y0,k0⟩:=cf1 B2.out)
  | (go_at_call 124;refine (ref02_cmp.calls A B c d x y w2 (rdb) (rdb)).mono ?_;rintro e w5 ⟨rfl,⟨nd,rfl⟩⟩))
 go_ret
 exact ⟨rfl,bel⟩
theorem ref02_Same.calls (A B:Option Addr) (c d:Nat) (x y:Nat) (w:World) (ha:CI w A (ND.digs x)) (hb:CI w B (ND.digs y)) :
  Calls Tryz.prog 32 #[.agg #[.slice A (ND.digs x).length c],.agg #[.slice B (ND.digs y).length d]] w fun e w' => e = .returned (.bool (cmpN x y == 0)) ∧ Below w.heap.size w w':=by
 have hu32:=Tryz.underlying32
 have HA:=am ha
 have HC:=am hb
 have HB:=am (Below.refl w.heap.size w)
 clear ha hb
 go_enter Tryz.func32,Tryz.ntmps32
 go_wp2_with (first
  | ((with_reducible refine gate_dst (N:=2) rfl ?_);refine bx 2 #[.slice A (ND.digs x).length c] 32 ?_;intro g1 w1 b1 hb;replace HB:=bst hb (h:=HB.out);have B1:=am b1;clear hb b1;obtain ⟨z0,f0⟩:=cf1 B1.out)
  | ((with_reducible refine gate_dst (N:=3) rfl ?_);refine bx 3 #[.slice B (ND.digs y).length d] 32 ?_;intro g2 w2 b1 hb;replace HB:=bst hb (h:=HB.out);replace B1:=bbl g1 hb;have B2:=am b1;clear hb b1 z0 f0;obtain ⟨z0,f0⟩:=cf1 B1.out;obtain ⟨y0,k0⟩:=cf1 B2.out)
  | (go_at_call 59;refine (ref02_Cmp.calls A B c d x y w2 (rdb) (rdb)).mono ?_;rintro e w5 ⟨rfl,hb⟩;replace HB:=bst hb (h:=HB.out)))
 go_ret
 exact ⟨rfl,bel⟩
theorem ref02_half.calls (A:Option Addr) (c:Nat) (l:List Int) (w:World) (ha:CI w A l) (hac:l.length ≤ c) (oa:ND.ok l) (hl:l.length ≤ 1000) :
  Calls Tryz.prog 182 #[.slice A l.length c] w fun e w' => RetI w w' e (ND.digs (ND.val l / 2)):=by
 have HA:=am ha
 have HAC:=am hac
 have OA:=am oa
 have HB:=am (Below.refl w.heap.size w)
 clear ha hac oa
 go_enter Tryz.func182,Tryz.ntmps182
 go_wp2_with (refine gate_ (.makeSlice 24 (.tmp 8) (.tmp 8)) rfl ?_;refine mkI l.length _ _ (by omega) ?_;intro g q w1 R1 HB1 hg;replace HB:=HB1;clear HB1)
 go_loopg [4,5] l.length (fun k v4 v5 w' => ∃ (j:Nat) (out:List Int) (cy:Int),v4 = .int .i64 cy ∧ v5 = .int .i64 ((j:Int) - 1) ∧ j ≤ l.length ∧ j ≤ k ∧ Aside0 (RI w' w (.slice (some ⟨g,0,none⟩) l.length q) out) ∧ Aside0 (Below w.heap.size w w') ∧ Aside0 (ND.HI l j out cy))
 case atStart => exact ⟨l.length,_,0,rfl,by go_num,Nat.le_refl _,Nat.le_refl _,R1,HB,⟨ND.HI0 _⟩⟩
 case round =>
  obtain ⟨j,out,cy,rfl,e5,h1,h2,R2,HB2,S⟩:=hrel
  replace HB:=HB2
  clear HB2 R1
  cases j with
  | zero =>
   have e0:((0:Nat):Int) - 1 = -1:=rfl
   rw [e0] at e5
   subst e5
   have hL:=S.out.2.1
   have E:=ND.HIend S.out
   have hcall:=ref02_trim.calls (some ⟨g,0,none⟩) q out wr (rC R2) (by rw [hL];exact rL R2)
   rw [hL] at hcall
   replace hcall:=am hcall
   have RT:=rtk R2.out E.1
   rw [hL,E.2] at RT
   replace RT:=am RT
   clear hL E
   go_wp2_with (go_at_call 274;refine hcall.out.mono ?_;rintro e w' ⟨rfl,⟨nd,rfl⟩⟩)
   go_ret
   exact retI (Kd.R_drewN RT.out _) bel
  | succ j =>
   have e0:((j + 1:Nat):Int) - 1 = j:=by omega
   rw [e0] at e5
   subst e5
   have hjl:j < l.length:=by omega
   obtain ⟨ad,e1,hx⟩:=cat (rdb:CI _ A l) hjl
   cases e1
   have T:=am (ND.HIs OA.out S.out hjl rfl)
   have hx1:=ND.ok_getD OA.out j
   have hcy:=S.out.2.2.1
   have hL:=am S.out.2.1
   generalize l.getD j 0 = x at hx T hx1
   have hnn:=T.out.1
   go_wp2_with (refine gate_ (.store 3 (.tmp 28) (.tmp 27)) rfl ?_;refine stI 28 _ j _ R2 hjl ?_;intro w2 R3 HB3 _;replace HB:=HB3;clear HB3)
   go_roundg j
   case measure => omega
   case rel => exact ⟨j,_,_,rfl,by go_num,by omega,Nat.le_refl _,R3,HB,⟨T.out.2⟩⟩
theorem ref02_even.calls (A:Option Addr) (c:Nat) (x:Nat) (w:World) (ha:CI w A (ND.digs x)) :
  Calls Tryz.prog 181 #[.slice A (ND.digs x).length c] w fun e w' => e = .returned (.bool (decide (x % 2 = 0))) ∧ Drawn0 w w':=by
 have HA:=am ha
 have hX:=Kd.C_max ha
 have HE:=am (ND.even_law (ND.ok_digs x))
 have hok:=am (ND.ok_getD (ND.ok_digs x) 0)
 rw [ND.val_digs] at HE
 clear ha
 generalize ND.digs x = l at *
 by_cases h:l.length = 0
 ·have e:decide (x % 2 = 0) = true:=decide_eq_true (HE.out.2 (.inl h))
  rw [e]
  go_enter Tryz.func181,Tryz.ntmps181
  go_wp2
  go_ret
  exact ⟨rfl,drw⟩
 ·have hl:0 < l.length:=by omega
  obtain ⟨ad,e1,hx⟩:=cat HA.out hl
  cases e1
  have hok:=hok.out
  have e:decide (x % 2 = 0) = decide (l.getD 0 0 % 2 = 0):=by
   by_cases c:x % 2 = 0
   ·rcases HE.out.1 c with h' | h'
    ·exact absurd h' h
    ·rw [decide_eq_true c,decide_eq_true h']
   ·rw [decide_eq_false c,decide_eq_false (fun h' => c (HE.out.2 (.inr h')))]
  rw [e]
  generalize l.getD 0 0 = z at hx hok
  clear e HE
  obtain ⟨b,hb⟩:∃ b,(z % 2 == 0) = b:=⟨_,rfl⟩
  have e:decide (z % 2 = 0) = b:=by rw [← hb];by_cases h:z % 2 = 0 <;> simp [h]
  have hz:z.tmod 2 = z % 2:=Int.tmod_eq_emod_of_nonneg hok.1
  replace hx:w.cell? ad = some (.int .i64 z):=hx
  rw [e]
  go_enter Tryz.func181,Tryz.ntmps181
  go_wp2
  go_ret
  have hlb:((l.length:Int) == 0) = false:=beq_eq_false_iff_ne.2 (by omega)
  exact ⟨by rw [hlb];rfl,drw⟩
theorem ref02_sum.calls (A B:Option Addr) (c d:Nat) (a b:List Int) (w:World) (ha:CI w A a) (hac:a.length ≤ c) (hb:CI w B b) (hbd:b.length ≤ d) (oa:ND.ok a) (ob:ND.ok b) (hl:a.length ≤ 2000) (hl2:b.length ≤ 2000) :
  Calls Tryz.prog 184 #[.slice A a.length c,.slice B b.length d] w fun e w' => RetI w w' e (ND.digs (ND.val a + ND.val b)):=by
 have HA:=am ha
 have HC:=am hb
 have OA:=am oa
 have OB:=am ob
 have HB:=am (Below.refl w.heap.size w)
 clear ha hb oa ob hac hbd
 have DA:=am (fun W (k:Nat) (hk:k ≤ 100000) (h:CI W A a) => ref02_digit.calls A c a k W h (by omega))
 have DB:=am (fun W (k:Nat) (hk:k ≤ 100000) (h:CI W B b) => ref02_digit.calls B d b k W h (by omega))
 go_enter Tryz.func184,Tryz.ntmps184
 go_wp2
 go_loopg [5,6,7] 4000 (fun k v5 v6 v7 w' => ∃ (i:Nat) (out:List Int) (cy:Int),v6 = .int .i64 cy ∧ v7 = .int .i64 (i:Int) ∧ 4000 - i ≤ k ∧ i ≤ 2000 ∧ Aside0 (RI w' w v5 out) ∧ Aside0 (Below w.heap.size w w') ∧ Aside0 (ND.UI a b i out cy))
 case atStart => exact ⟨0,[],0,rfl,rfl,by omega,by omega,⟨Kd.R_nil _ _ _ _ _⟩,HB,⟨ND.UI0 _ _⟩⟩
 case round =>
  obtain ⟨i,out,cy,rfl,rfl,h1,h2,R2,HB2,S⟩:=hrel
  replace HB:=HB2
  clear HB2
  have hL:=am S.out.2.1
  have hcy:=S.out.2.2.1
  have LL:=am (show out.length < 17592186044416 by have:=hL.out;omega)
  by_cases hi:i < a.length ∨ i < b.length
  ·have T:=am (ND.UIs OA.out OB.out S.out rfl)
   have da:=am (fun W => DA.out W i (by omega))
   have db:=am (fun W => DB.out W i (by omega))
   have hx:=ND.ok_getD OA.out i
   have hy:=ND.ok_getD OB.out i
   generalize a.getD i 0 = x at T da hx
   generalize b.getD i 0 = y at T db hy
   have hnn:=T.out.1
   go_wp2_with (first
    | (go_at_call 275;refine (da.out wr (rdb)).mono ?_;rintro e w3 ⟨rfl,⟨nd,rfl⟩⟩;clear da)
    | (go_at_call 275;refine (db.out _ (rdb)).mono ?_;rintro e w3 ⟨rfl,⟨nd2,rfl⟩⟩;clear db)
    | ((with_reducible refine gate_builtin (b:=.append) (xs:=#[.tmp 30,.tmp 33]) rfl ?_);at_builtin;refine apI 30 33 R2 LL ?_;intro v1 w1 ho HB1 hs hg;replace R2:=ho;replace HB:=HB1;clear ho HB1 hs hg))
   ·go_roundg (4000 - (i + 1))
    case measure => omega
    case rel => exact ⟨i + 1,_,_,rfl,by go_num,by omega,by omega,R2,HB,⟨T.out.2⟩⟩
   ·go_roundg (4000 - (i + 1))
    case measure => omega
    case rel => exact ⟨i + 1,_,_,rfl,by go_num,by omega,by omega,R2,HB,⟨T.out.2⟩⟩
  ·have E:=ND.UIend S.out (by omega) (by omega)
   have E1:=am E.1
   have E2:=am E.2
   clear E
   go_wp2_with (first
    | ((with_reducible refine gate_builtin (b:=.append) (xs:=#[.tmp 37,.tmp 39]) rfl ?_);at_builtin;refine apI 37 39 R2 LL ?_;intro v1 w1 ho HB1 hs hg;replace R2:=ho;replace HB:=HB1;clear ho HB1 hs hg;generalize out ++ [cy] = ol at R2 E1 E2;obtain ⟨P,q,e⟩:=Kd.R_slice R2.out;subst e;have HT:=am (ref02_trim.calls P q ol w1 (rC R2) (rL R2)))
    | (go_at_call 274;refine HT.out.mono ?_;rintro e w' ⟨rfl,⟨nd,rfl⟩⟩))
   go_ret
   have R:=rtk R2.out E1.out
   rw [E2.out] at R
   exact retI (Kd.R_drewN R _) bel
def bad (n:Int):Bool:=decide (n < 0) || decide (10000 ≤ n)
theorem pred_bad (r:Int) (w:World):Calls Tryz.prog 280 #[.int .i64 r] w fun e w' => e = .returned (.bool (bad r)) ∧ Drawn0 w w':=by
 by_cases h:r < 0
 ·have e:bad r = true:=by unfold bad;rw [decide_eq_true h];rfl
  rw [e]
  go_enter Tryz.func280,Tryz.ntmps280
  go_wp2
  go_ret
  exact ⟨rs,drw⟩
 ·obtain ⟨b,hb⟩:∃ b:Bool,decide (10000 ≤ r) = b:=⟨_,rfl⟩
  have e:bad r = b:=by unfold bad;rw [decide_eq_false h,hb];rfl
  rw [e]
  go_enter Tryz.func280,Tryz.ntmps280
  go_wp2
  go_ret
  exact ⟨rs,drw⟩
set_option maxHeartbeats 4000000 in
theorem index_bad (A0:Option Addr) (c0:Nat) (l0:List Int) (w:World) (hr0:Kd.C (Kd.int .i64) w A0 l0.length l0) (hbig:l0.length ≤ 9223372036854775807) :
  Calls Tryz.prog 192 #[.slice A0 l0.length c0,.func (.func 280) #[] #[]] w fun e w' => (∃ k:Int,e = .returned (.int .i64 k) ∧ decide (0 ≤ k) = l0.any bad) ∧ Drawn0 w w':=by
 have HR0:=Aside0.mk hr0
 have HP:=Aside0.mk (fun (r:Int) (m:Nat) => pred_bad r (w.drewN m))
 have HBIG:=Aside0.mk hbig
 clear hr0
 have eg:∀ args w,(callFunc 280 args).run Tryz.prog w = .ok (.enter 280 args) w:=enters_ Tryz.func280 (by kernel_rfl) rfl
 go_enter Tryz.func192,Tryz.ntmps192
 go_wp2
 go_loopg [5,8] l0.length (fun gg _ s8 wr => ∃ kk:Nat,kk ≤ l0.length ∧ l0.length - kk ≤ gg ∧ s8 = .int .i64 kk ∧ Aside0 (Drawn0 w wr) ∧ Aside0 (∀ j:Nat,j < kk → bad (rd l0 (j:Int)) = false))
 case atStart => exact ⟨0,Nat.zero_le _,by omega,rfl,⟨drw⟩,⟨fun j hj => absurd hj (Nat.not_lt_zero _)⟩⟩
 case round =>
  obtain ⟨kk,hkk,hg,rfl,BW,A⟩:=hrel
  obtain ⟨m,hm⟩:=BW.out.out
  by_cases hlt:kk < l0.length
  ·have hltz:(kk:Int) < (l0.length:Int):=by omega
   have p1:0 ≤ (kk:Int):=by omega
   obtain ⟨ad,e0,hx⟩:=Kd.at_int HR0.out (kk:Int) p1 hltz
   cases e0
   rw [Int.toNat_natCast] at hx
   have hcall:=HP.out (rd l0 (kk:Int)) m
   rw [← hm] at hcall
   replace hx:wr.cell? (ad.add kk) = some (Value.int IntKind.i64 (rd l0 (kk:Int))):=by rw [hm];exact hx
   have hh:=any_hit (p:=bad) hlt
   generalize hy:rd l0 (kk:Int) = y at hx hcall hh
   have B:=Aside0.mk hy
   clear hy
   have hh':=Aside0.mk hh
   clear hh hm
   cases hq:bad y with
   | true =>
    rw [hq] at hcall
    go_wp2_with (go_at_call 280;refine hcall.mono ?_;rintro e w' ⟨rfl,⟨nd,rfl⟩⟩)
    go_ret
    refine ⟨⟨_,rfl,?_⟩,?_⟩
    ·rw [hh'.out hq];exact decide_eq_true (by omega)
    ·exact BW.out.step _
   | false =>
    rw [hq] at hcall
    go_wp2_with (go_at_call 280;refine hcall.mono ?_;rintro e w' ⟨rfl,⟨nd,rfl⟩⟩)
    go_roundg (l0.length - (kk + 1))
    case measure => omega
    case rel =>
     refine ⟨kk + 1,by omega,by omega,by go_num,⟨BW.out.step _⟩,⟨fun j hj => ?_⟩⟩
     by_cases e:j = kk
     ·subst e
      rw [B.out];exact hq
     ·exact A.out j (by omega)
  ·have hltz:¬ (kk:Int) < (l0.length:Int):=by omega
   have hk:kk = l0.length:=by omega
   clear hm
   go_wp2
   go_ret
   refine ⟨⟨_,rfl,?_⟩,BW.out⟩
   rw [any_miss (fun j hj => A.out j (by omega))]
   rfl
set_option maxHeartbeats 1000000 in
theorem contains_bad (A0:Option Addr) (c0:Nat) (l0:List Int) (w:World) (hr0:Kd.C (Kd.int .i64) w A0 l0.length l0) (hbig:l0.length ≤ 9223372036854775807) :
  Calls Tryz.prog 111 #[.slice A0 l0.length c0,.func (.func 280) #[] #[]] w fun e w' => e = .returned (.bool (l0.any bad)) ∧ Drawn0 w w':=by
 have hcall:=index_bad A0 c0 l0 w hr0 hbig
 clear hr0 hbig
 generalize l0.any bad = r at hcall ⊢
 go_enter Tryz.func111,Tryz.ntmps111
 go_wp2_with (go_at_call 192;refine hcall.mono ?_;rintro e w' ⟨⟨k,rfl,hk⟩,⟨nd,rfl⟩⟩)
 go_ret
 exact ⟨by first | rfl | (rw [hk];rfl),drw⟩
theorem ok_bad {l:List Int} (h:ND.ok l):l.any bad = false:=by
 rw [List.any_eq_false]
 intro x hx
 have:=h x hx
 unfold bad
 rw [decide_eq_false (by omega),decide_eq_false (by omega)]
 decide
theorem top_get {x:Nat} (h:0 < (ND.digs x).length):(ND.digs x).getD ((ND.digs x).length - 1) 0 ≠ 0:=by
 have t:=ND.top_digs x
 intro e
 refine t ?_
 rw [List.getLast?_eq_getElem?,List.getElem?_eq_getElem (by omega)]
 rw [ND.gd (by omega)] at e
 rw [e]
theorem natural_Valid.calls (A:Option Addr) (c:Nat) (x:Nat) (w:World) (ha:CI w A (ND.digs x)) (hl:(ND.digs x).length ≤ 200) :
  Calls Tryz.prog 193 #[.agg #[.slice A (ND.digs x).length c]] w fun e w' => e = .returned (.bool true) ∧ Below w.heap.size w w':=by
 have hu32:=Tryz.underlying32
 have HA:=am ha
 have HT:=am (top_get (x:=x))
 have HK:=am (fun W (h:CI W A (ND.digs x)) => contains_bad A c (ND.digs x) W h (by omega))
 rw [ok_bad (ND.ok_digs x)] at HK
 have HB:=am (Below.refl w.heap.size w)
 clear ha
 generalize ND.digs x = l at *
 by_cases h0:l.length = 0
 ·have e0:=List.length_eq_zero_iff.1 h0
  subst e0
  have HK0:Aside0 (∀ W,Below w.heap.size w W → Calls Tryz.prog 111 #[.slice A 0 c,.func (.func 280) #[] #[]] W fun e w' => e = .returned (.bool false) ∧ Drawn0 W w'):=⟨fun W hb => HK.out W (Kd.C_below HA.out hb)⟩
  clear h0 HT hl HK
  go_enter Tryz.func193,Tryz.ntmps193
  go_wp2_with (first
   | ((with_reducible refine gate_dst (N:=1) rfl ?_);refine bx 1 #[.slice A 0 c] 32 ?_;intro g1 w1 b1 hb;replace HB:=bst hb (h:=HB.out);obtain ⟨z0,f0⟩:=cf1 b1;clear hb b1)
   | (go_at_call 111;refine (HK0.out w1 HB.out).mono ?_;rintro e w2 ⟨rfl,⟨nd,rfl⟩⟩))
  go_ret
  exact ⟨rfl,bel⟩
 ·have hl0:0 < l.length:=by omega
  obtain ⟨ad,e1,hx0⟩:=cat HA.out (i:=l.length - 1) (by omega)
  cases e1
  have HX:=am hx0
  have hne:=HT.out hl0
  generalize l.getD (l.length - 1) 0 = z at HX hne
  have hzb:(z == 0) = false:=beq_eq_false_iff_ne.2 hne
  have e2:(l.length:Int) - 1 = ((l.length - 1:Nat):Int):=by omega
  clear hx0 HT
  go_enter Tryz.func193,Tryz.ntmps193
  go_wp2_with (first
   | ((with_reducible refine gate_dst (N:=1) rfl ?_);refine bx 1 #[.slice (some ad) l.length c] 32 ?_;intro g1 w1 b1 hb;replace HB:=bst hb (h:=HB.out);obtain ⟨z0,f0⟩:=cf1 b1;have hx1:=oc1 HX;clear hb b1)
   | (go_at_call 111;refine (HK.out w1 (rdb)).mono ?_;rintro e w2 ⟨rfl,⟨nd,rfl⟩⟩))
  go_ret
  exact ⟨rfl,bel⟩
theorem ref02_Valid.calls (A:Option Addr) (c:Nat) (x:Nat) (w:World) (ha:CI w A (ND.digs x)) (hl:(ND.digs x).length ≤ 200) :
  Calls Tryz.prog 180 #[.agg #[.slice A (ND.digs x).length c]] w fun e w' => e = .returned (.bool true) ∧ Below w.heap.size w w':=by
 have hu32:=Tryz.underlying32
 have HA:=am ha
 have HT:=am (top_get (x:=x))
 have HO:=am (ND.ok_digs x)
 have HB:=am (Below.refl w.heap.size w)
 have HL:=am hl
 clear ha hl
 generalize ND.digs x = l at *
 by_cases h0:l.length = 0
 ·have e0:=List.length_eq_zero_iff.1 h0
  subst e0
  clear h0 HT HL HO
  go_enter Tryz.func180,Tryz.ntmps180
  go_wp2_with ((with_reducible refine gate_dst (N:=1) rfl ?_);refine bx 1 #[.slice A 0 c] 32 ?_;intro g1 w1 b1 hb;replace HB:=bst hb (h:=HB.out);have B1:=am b1;obtain ⟨z0,f0⟩:=cf1 b1;clear hb b1)
  go_loopg [4] 1 (fun k v4 w' => v4 = .int .i64 0 ∧ Drawn0 w1 w')
  case atStart => exact ⟨rfl,drw⟩
  case round =>
   obtain ⟨rfl,nd,rfl⟩:=hrel
   go_wp2
   go_ret
   exact ⟨rfl,bel⟩
 ·have hl0:0 < l.length:=by omega
  have hl:=HL.out
  obtain ⟨ad,e1,hx0⟩:=cat HA.out (i:=l.length - 1) (by omega)
  cases e1
  have HX:=am hx0
  have hne:=HT.out hl0
  generalize l.getD (l.length - 1) 0 = z at HX hne
  have hzb:(z == 0) = false:=beq_eq_false_iff_ne.2 hne
  have e2:(l.length:Int) - 1 = ((l.length - 1:Nat):Int):=by omega
  clear hx0 HT
  go_enter Tryz.func180,Tryz.ntmps180
  go_wp2_with ((with_reducible refine gate_dst (N:=1) rfl ?_);refine bx 1 #[.slice (some ad) l.length c] 32 ?_;intro g1 w1 b1 hb;replace HB:=bst hb (h:=HB.out);have B1:=am b1;obtain ⟨z0,f0⟩:=cf1 b1;have hx1:=oc1 HX;clear hb b1)
  clear z0 f0 hx1
  go_loopg [4] l.length (fun k v4 w' => ∃ i:Nat,v4 = .int .i64 (i:Int) ∧ i ≤ l.length ∧ l.length - i ≤ k ∧ Drawn0 w1 w')
  case atStart => exact ⟨0,rfl,Nat.zero_le _,by omega,drw⟩
  case round =>
   obtain ⟨i,rfl,h1,h2,nd,rfl⟩:=hrel
   obtain ⟨z0,f0⟩:=cf1 B1.out
   by_cases hi:i < l.length
   ·obtain ⟨bd,e3,hy0⟩:=cat HA.out hi
    cases e3
    have HY:=am hy0
    have hy:=oc1 (W:=w1) HY
    have hok:=ND.ok_getD HO.out i
    generalize l.getD i 0 = y at HY hok hy
    clear hy0
    go_wp2
    go_roundg (l.length - (i + 1))
    case measure => omega
    case rel => exact ⟨i + 1,by go_num,by omega,by omega,drw⟩
   ·go_wp2
    go_ret
    exact ⟨rfl,bel⟩
end Go.Proofs.YtnbcnoabbdegpaaGreatDoor.V
