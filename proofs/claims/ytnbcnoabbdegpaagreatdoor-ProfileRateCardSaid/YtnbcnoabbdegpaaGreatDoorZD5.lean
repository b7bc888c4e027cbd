/- A part of the proof of the tied card of ProfileRate (chapter 53): the law returns true whatever the input. -/
import Derived.Test.YtnbcnoabbdegpaaGreatDoorZD4
set_option linter.unusedVariables false
set_option linter.unusedSimpArgs false
namespace Go.Proofs.YtnbcnoabbdegpaaGreatDoor.V
open Go.RowKit Go.Proofs.YtnbcnoabbdegpaaGreatDoorW.PrintWords Go.Proofs.YtnbcnoabbdegpaaGreatDoorW.PrintLast Go.Proofs.YtnbcnoabbdegpaaGreatDoorW.PrintMore
attribute [local go_sem] max2_int min2_int max_two min_two
set_option linter.unusedVariables false
set_option linter.unusedSimpArgs false
set_option maxHeartbeats 8000000
set_option maxRecDepth 100000
theorem cmpN_gt {x y:Nat}:0 < cmpN x y ↔ y < x:=by
 unfold cmpN
 by_cases h:x < y
 ·rw [if_pos h];omega
 ·by_cases h2:x = y
  ·rw [if_neg h,if_pos h2];omega
  ·rw [if_neg h,if_neg h2];omega
section
variable {ops:Array Oper} {rest:List Oper} {o:Oper} {a:Act} {Q:Exit → Act → World → Prop} {W w:World} {v:Value}
theorem lt0 {N:Tmp} (h:∀ v1 w1,RI w1 W v1 [] → Below W.heap.size W w1 → wpList Tryz.prog ops Q rest (a.put (some N) v1) w1) (hd:o.dst = some N:=by rfl) (hgd:o.guard = none:=by rfl)
  (hrun:(execOp a.eval o).run Tryz.prog W = .ok (.value (.slice (some ⟨W.heap.size,0,none⟩) ([]:List Int).length ([]:List Int).length)) (W.alloc (.cells ([]:List Value).toArray 3)):=by first | (go_simp;done) | (go_simp;rfl)):wpList Tryz.prog ops Q (o :: rest) a W:=by
 refine Kd.R_lit (Kd.int .i64) (w0:=W) W.heap.size 3 hgd hd (xs:=[]) (inner:=[]) (ok:=fun _ => True) (okp:=fun _ => True) hrun (Reps.none _ _) (fun _ hk => hk) trivial (Below.refl _ _) (Nat.le_refl _) (by simp) fun v1 w1 h1 h2 _ _ => ?_
 rw [hd]
 exact h v1 w1 h1 h2
end
theorem digs_ne {Y:Nat} (h:0 < Y):0 < (ND.digs Y).length:=by
 rcases Nat.eq_zero_or_pos (ND.digs Y).length with e | e
 ·have e2:=List.length_eq_zero_iff.1 e
  have h2:=ND.val_digs Y
  rw [e2] at h2
  have h3:(0:Nat) = Y:=h2
  omega
 ·exact e
theorem ref02_Gcd.calls (A B:Option Addr) (c d:Nat) (x y:Nat) (w:World) (ha:CI w A (ND.digs x)) (hac:(ND.digs x).length ≤ c) (hb:CI w B (ND.digs y)) (hbd:(ND.digs y).length ≤ d) (lx:(ND.digs x).length ≤ 200) (ly:(ND.digs y).length ≤ 200) :
  Calls Tryz.prog 100 #[.agg #[.slice A (ND.digs x).length c],.agg #[.slice B (ND.digs y).length d]] w fun e w' => ∃ A1 c1,e = .returned (.tuple #[.agg #[.slice A1 (ND.digs (Nat.gcd x y)).length c1],.int .i64 0]) ∧ RI w' w (.slice A1 (ND.digs (Nat.gcd x y)).length c1) (ND.digs (Nat.gcd x y)) ∧ Below w.heap.size w w':=by
 have hu32:=Tryz.underlying32
 have HA:=am ha
 have HC:=am hb
 have HAC:=am hac
 have HBD:=am hbd
 have LX:=am lx
 have LY:=am ly
 have HB:=am (Below.refl w.heap.size w)
 clear ha hb lx ly hac hbd
 by_cases hx0:x = 0
 ·subst hx0
  rw [Nat.gcd_zero_left]
  have hL:=am (show ([]:List Int).length + (ND.digs y).length < 17592186044416 by have:=LY.out;simp;omega)
  have HV:=am (fun (W:World) (h:Below w.heap.size w W) => ref02_Valid.calls A c 0 W (Kd.C_below HA.out h) (by rw [ND.digs0];simp))
  rw [ND.digs0] at *
  clear HA HAC LX
  go_enter Tryz.func100,Tryz.ntmps100
  go_wp2_with (first
   | ((with_reducible refine gate_dst (N:=2) rfl ?_);refine bxe 2 #[.slice A 0 c] 32 ?_;intro g2 eg wg2 b1 hb;have Gg2:Aside0 (w.heap.size ≤ g2):=szl eg (h:=HB.out);have Bg2:=am b1;replace HB:=bst hb (h:=HB.out);clear hb b1 eg;obtain ⟨zg2,fg2⟩:=cf1 Bg2.out)
   | ((with_reducible refine gate_dst (N:=3) rfl ?_);refine bxe 3 #[.slice B (ND.digs y).length d] 32 ?_;intro g3 eg wg3 b1 hb;have Gg3:Aside0 (w.heap.size ≤ g3):=szl eg (h:=HB.out);have Ng2_g3:=nel g2 eg (Bg2.out);replace Bg2:=bbl g2 hb;have Bg3:=am b1;replace HB:=bst hb (h:=HB.out);clear hb b1 eg;clear zg2 fg2;obtain ⟨zg2,fg2⟩:=cf1 Bg2.out;obtain ⟨zg3,fg3⟩:=cf1 Bg3.out)
   | ((with_reducible refine gate_dst (N:=4) rfl ?_);refine bxe 4 #[.slice none 0 0] 32 ?_;intro g4 eg wg4 b1 hb;have Gg4:Aside0 (w.heap.size ≤ g4):=szl eg (h:=HB.out);have Ng2_g4:=nel g2 eg (Bg2.out);have Ng3_g4:=nel g3 eg (Bg3.out);replace Bg2:=bbl g2 hb;replace Bg3:=bbl g3 hb;have Bg4:=am b1;replace HB:=bst hb (h:=HB.out);clear hb b1 eg;clear zg2 fg2 zg3 fg3;obtain ⟨zg2,fg2⟩:=cf1 Bg2.out;obtain ⟨zg3,fg3⟩:=cf1 Bg3.out;obtain ⟨zg4,fg4⟩:=cf1 Bg4.out)
   | (go_at_call 180;refine (HV.out _ HB.out).mono ?_;rintro e wc3 ⟨rfl,hb⟩;replace Bg2:=bbl g2 hb;replace Bg3:=bbl g3 hb;replace Bg4:=bbl g4 hb;replace HB:=bst hb (h:=HB.out);clear hb HV;clear zg2 fg2 zg3 fg3 zg4 fg4;obtain ⟨zg2,fg2⟩:=cf1 Bg2.out;obtain ⟨zg3,fg3⟩:=cf1 Bg3.out;obtain ⟨zg4,fg4⟩:=cf1 Bg4.out)
   | (go_at_call 180;(with_reducible refine (ref02_Valid.calls B d y _ (Kd.C_below HC.out HB.out) LY.out).mono ?_);rintro e wc4 ⟨rfl,hb⟩;replace Bg2:=bbl g2 hb;replace Bg3:=bbl g3 hb;replace Bg4:=bbl g4 hb;replace HB:=bst hb (h:=HB.out);clear hb;clear zg2 fg2 zg3 fg3 zg4 fg4;obtain ⟨zg2,fg2⟩:=cf1 Bg2.out;obtain ⟨zg3,fg3⟩:=cf1 Bg3.out;obtain ⟨zg4,fg4⟩:=cf1 Bg4.out))
  go_quiet (fail)
  have DW:=pw_below_drewN (Below.refl wc4.heap.size wc4) nq
  replace Bg4:=bbl g4 DW (h:=Bg4.out)
  have HCy:=am (Kd.C_below (Kd.C_below HC.out HB.out) DW)
  replace HB:=bst DW (h:=HB.out)
  clear DW Bg2 Bg3 zg2 zg3 zg4 fg2 fg3 fg4
  obtain ⟨zg4,fg4⟩:=cf1 Bg4.out
  generalize wc4.drewN nq = w9 at Bg4 HCy HB zg4 fg4 ⊢
  go_wp2_with (first
   | ((with_reducible refine gate_dst (N:=27) rfl ?_);refine lt0 ?_;intro u1 w5 RL BL;replace RL:=am RL;have HBr:=am BL)
   | ((with_reducible refine gate_builtin (b:=.append) (xs:=#[.tmp 27,.tmp 28]) rfl ?_);at_builtin;refine arI 27 28 RL hL.out (Kd.C_below HCy.out HBr.out) ?_;intro u2 w6 RA BA;rw [List.nil_append] at RA;obtain ⟨A9,c9,e⟩:=Kd.R_slice RA.out;subst e;have R9:=am (Kd.R_lower RA.out (below_size HB.out));replace Bg4:=bbl g4 BA.out (h:=Bg4.out);replace HB:=bst BA.out (h:=HB.out);clear RA RL BA HBr zg4 fg4;obtain ⟨zg4,fg4⟩:=cf1 Bg4.out))
  refine bodyPost_ret (results_ct rfl _ _ g4 32 #[.slice A9 (ND.digs y).length c9] (0,0) _ rfl (set1 sb) Tryz.underlying32 rfl (by kernel_rfl)) rfl ?_
  exact ⟨A9,c9,rfl,rx,bel⟩
 ·have hxl:=digs_ne (Nat.pos_of_ne_zero hx0)
  go_enter Tryz.func100,Tryz.ntmps100
  go_wp2_with (first
   | ((with_reducible refine gate_dst (N:=2) rfl ?_);refine bxe 2 #[.slice A (ND.digs x).length c] 32 ?_;intro g2 eg wg2 b1 hb;have Gg2:Aside0 (w.heap.size ≤ g2):=szl eg (h:=HB.out);have Bg2:=am b1;replace HB:=bst hb (h:=HB.out);clear hb b1 eg;obtain ⟨zg2,fg2⟩:=cf1 Bg2.out)
   | ((with_reducible refine gate_dst (N:=3) rfl ?_);refine bxe 3 #[.slice B (ND.digs y).length d] 32 ?_;intro g3 eg wg3 b1 hb;have Gg3:Aside0 (w.heap.size ≤ g3):=szl eg (h:=HB.out);have Ng2_g3:=nel g2 eg (Bg2.out);replace Bg2:=bbl g2 hb;have Bg3:=am b1;replace HB:=bst hb (h:=HB.out);clear hb b1 eg;clear zg2 fg2;obtain ⟨zg2,fg2⟩:=cf1 Bg2.out;obtain ⟨zg3,fg3⟩:=cf1 Bg3.out)
   | ((with_reducible refine gate_dst (N:=4) rfl ?_);refine bxe 4 #[.slice none 0 0] 32 ?_;intro g4 eg wg4 b1 hb;have Gg4:Aside0 (w.heap.size ≤ g4):=szl eg (h:=HB.out);have Ng2_g4:=nel g2 eg (Bg2.out);have Ng3_g4:=nel g3 eg (Bg3.out);replace Bg2:=bbl g2 hb;replace Bg3:=bbl g3 hb;have Bg4:=am b1;replace HB:=bst hb (h:=HB.out);clear hb b1 eg;clear zg2 fg2 zg3 fg3;obtain ⟨zg2,fg2⟩:=cf1 Bg2.out;obtain ⟨zg3,fg3⟩:=cf1 Bg3.out;obtain ⟨zg4,fg4⟩:=cf1 Bg4.out)
   | (go_at_call 180;(with_reducible refine (ref02_Valid.calls A c x _ (Kd.C_below HA.out HB.out) LX.out).mono ?_);rintro e wc3 ⟨rfl,hb⟩;replace Bg2:=bbl g2 hb;replace Bg3:=bbl g3 hb;replace Bg4:=bbl g4 hb;replace HB:=bst hb (h:=HB.out);clear hb;clear zg2 fg2 zg3 fg3 zg4 fg4;obtain ⟨zg2,fg2⟩:=cf1 Bg2.out;obtain ⟨zg3,fg3⟩:=cf1 Bg3.out;obtain ⟨zg4,fg4⟩:=cf1 Bg4.out)
   | (go_at_call 180;(with_reducible refine (ref02_Valid.calls B d y _ (Kd.C_below HC.out HB.out) LY.out).mono ?_);rintro e wc4 ⟨rfl,hb⟩;replace Bg2:=bbl g2 hb;replace Bg3:=bbl g3 hb;replace Bg4:=bbl g4 hb;replace HB:=bst hb (h:=HB.out);clear hb;clear zg2 fg2 zg3 fg3 zg4 fg4;obtain ⟨zg2,fg2⟩:=cf1 Bg2.out;obtain ⟨zg3,fg3⟩:=cf1 Bg3.out;obtain ⟨zg4,fg4⟩:=cf1 Bg4.out))
  repeat (go_quiet (fail);try go_wp2)
  have DW:=pw_below_drewN (Below.refl wc4.heap.size wc4) nq
  have B4:=bbl g4 DW (h:=Bg4.out)
  have R6:=am (Kd.C_below (Kd.C_below HA.out HB.out) DW)
  have R7:=am (Kd.C_below (Kd.C_below HC.out HB.out) DW)
  replace HB:=bst DW (h:=HB.out)
  clear DW Bg2 Bg3 Bg4 zg2 zg3 zg4 fg2 fg3 fg4
  have q:(((ND.digs x).length:Int) == 0) = false:=by assumption
  rw [q]
  have LG:=am (show Nat.gcd x y < 10000 ^ 200 from Nat.lt_of_le_of_lt (Nat.gcd_le_left y (Nat.pos_of_ne_zero hx0)) (ND.len_lt200 LX.out))
  go_loopg [6,7,8] (x + y) (fun k v6 v7 v8 w' => ∃ (X Y tw:Nat) (A6:Option Addr) (c6:Nat) (A7:Option Addr) (c7:Nat),v6 = .slice A6 (ND.digs X).length c6 ∧ v7 = .slice A7 (ND.digs Y).length c7 ∧ v8 = .int .i64 (tw:Int) ∧ X + Y ≤ k ∧ 0 < X ∧ Aside0 ((ND.digs X).length ≤ c6) ∧ Aside0 ((ND.digs Y).length ≤ c7) ∧ Aside0 (CI w' A6 (ND.digs X)) ∧ Aside0 (CI w' A7 (ND.digs Y)) ∧ Aside0 (Below w.heap.size w w') ∧ Aside0 (w'.heap[g4]? = some (.cells #[.slice none 0 0] 32 (0,0))) ∧ Aside0 (Nat.gcd X Y * 2 ^ tw = Nat.gcd x y) ∧ Aside0 ((ND.digs X).length ≤ 200) ∧ Aside0 ((ND.digs Y).length ≤ 200))
  case atStart => exact ⟨x,y,0,A,c,B,d,rfl,rfl,rfl,Nat.le_refl _,Nat.pos_of_ne_zero hx0,HAC,HBD,R6,R7,HB,B4,⟨by simp⟩,LX,LY⟩
  case round =>
   clear R6 R7 B4 hxl hx0
   obtain ⟨X,Y,tw,A6,c6,A7,c7,rfl,rfl,rfl,h1,hX,C6,C7,R6,R7,HB2,B4,HG,L6,L7⟩:=hrel
   replace HB:=HB2
   clear HB2
   have htw:tw < 2800:=ND.two_bound (n:=Nat.gcd x y) (by
    rw [← HG.out]
    exact Nat.le_mul_of_pos_left _ (Nat.gcd_pos_of_pos_left Y hX)) LG.out
   by_cases hY:Y = 0
   ·subst hY
    have hG:X * 2 ^ tw = Nat.gcd x y:=by have:=HG.out;rwa [Nat.gcd_zero_right] at this
    have HGX:=am hG
    have LGG:=am (show (ND.digs (Nat.gcd x y)).length ≤ 200 from ND.digs_length LG.out)
    rw [ND.digs0]
    have hL:=am (show ([]:List Int).length + (ND.digs X).length < 17592186044416 by have:=L6.out;simp;omega)
    clear HG R7 C7 L7 h1 hG
    go_wp2_with (first
     | ((with_reducible refine gate_dst (N:=69) rfl ?_);refine lt0 ?_;intro u1 w5 RL BL;replace RL:=am RL;have HBr:=am BL)
     | ((with_reducible refine gate_builtin (b:=.append) (xs:=#[.tmp 69,.tmp 70]) rfl ?_);at_builtin;refine arI 69 70 RL hL.out (Kd.C_below R6.out HBr.out) ?_;intro u2 w6 RA BA;rw [List.nil_append] at RA;obtain ⟨A9,c9,e⟩:=Kd.R_slice RA.out;subst e;have R9:=am (Kd.R_lower RA.out (below_size HB.out));replace B4:=bbl g4 BA.out (h:=B4.out);replace HB:=bst BA.out (h:=HB.out);clear RA RL BA HBr R6 C6))
    go_loopg [9,10] tw (fun k v9 v10 w' => ∃ (i:Nat) (A9:Option Addr) (c9:Nat),v9 = .slice A9 (ND.digs (X * 2 ^ i)).length c9 ∧ v10 = .int .i64 (i:Int) ∧ i ≤ tw ∧ tw - i ≤ k ∧ Aside0 (RI w' w (.slice A9 (ND.digs (X * 2 ^ i)).length c9) (ND.digs (X * 2 ^ i))) ∧ Aside0 (Below w.heap.size w w') ∧ Aside0 (w'.heap[g4]? = some (.cells #[.slice none 0 0] 32 (0,0))))
    case atStart =>
     have e1:X * 2 ^ 0 = X:=by rw [Nat.pow_zero,Nat.mul_one]
     refine ⟨0,A9,c9,by rw [e1],rfl,Nat.zero_le _,by omega,by rw [e1];exact R9,HB,B4⟩
    case round =>
     clear R9 B4
     obtain ⟨i,A9,c9,rfl,rfl,h2,h3,R9,HB2,B4⟩:=hrel
     replace HB:=HB2
     clear HB2
     by_cases hi:i < tw
     ·have hle:X * 2 ^ i ≤ Nat.gcd x y:=by rw [← HGX.out];exact Nat.mul_le_mul_left _ (Nat.pow_le_pow_right (by decide) h2)
      have l9:=Nat.le_trans (ND.digs_mono hle) LGG.out
      have HS:=am (fun (W:World) (h1:CI W A9 (ND.digs (X * 2 ^ i))) => ref02_sum.calls A9 A9 c9 c9 (ND.digs (X * 2 ^ i)) (ND.digs (X * 2 ^ i)) W h1 (rL R9) h1 (rL R9) (ND.ok_digs _) (ND.ok_digs _) (by omega) (by omega))
      rw [ND.val_digs,show X * 2 ^ i + X * 2 ^ i = X * 2 ^ (i + 1) by rw [Nat.pow_succ,← Nat.mul_assoc,Nat.mul_two]] at HS
      clear hle l9
      generalize X * 2 ^ i = V at *
      go_wp2_with (go_at_call 184;(with_reducible refine (HS.out _ (rC R9)).mono ?_);rintro e w7 ⟨A1,c1,rfl,R1,hb⟩;replace R1:=rlo R1 (h:=HB.out);replace B4:=bbl g4 hb (h:=B4.out);replace HB:=bst hb (h:=HB.out);clear hb HS R9)
      go_roundg (tw - (i + 1))
      case measure => omega
      case rel => exact ⟨i + 1,A1,c1,rfl,by go_num,by omega,by omega,R1,HB,B4⟩
     ·have ei:i = tw:=by omega
      subst ei
      have hG:=HGX.out
      rw [hG] at R9 ⊢
      obtain ⟨z0,f0⟩:=cf1 B4.out
      go_wp2
      refine bodyPost_ret (results_ct rfl _ _ g4 32 #[.slice A9 (ND.digs (Nat.gcd x y)).length c9] (0,0) _ rfl (set1 sb) Tryz.underlying32 rfl (by kernel_rfl)) rfl ?_
      exact ⟨A9,c9,rfl,rx,bel⟩
   ·have hYl:=digs_ne (Nat.pos_of_ne_zero hY)
    by_cases hx:X % 2 = 0
    ·have H6:=am (fun (W:World) (h1:CI W A6 (ND.digs X)) => ref02_half.calls A6 c6 (ND.digs X) W h1 C6.out (ND.ok_digs _) (by have:=L6.out;omega))
     rw [ND.val_digs] at H6
     by_cases hy:Y % 2 = 0
     ·have H7:=am (fun (W:World) (h1:CI W A7 (ND.digs Y)) => ref02_half.calls A7 c7 (ND.digs Y) W h1 C7.out (ND.ok_digs _) (by have:=L7.out;omega))
      rw [ND.val_digs] at H7
      go_wp2_with (first
       | (go_at_call 181;(with_reducible refine (ref02_even.calls A6 c6 X _ R6.out).mono ?_);rintro e wv ⟨rfl,hd⟩;have hb:=hd.below;replace R6:=am (Kd.C_below R6.out hb);replace R7:=am (Kd.C_below R7.out hb);replace B4:=bbl g4 hb (h:=B4.out);replace HB:=bst hb (h:=HB.out);clear hb hd)
       | (go_at_call 181;(with_reducible refine (ref02_even.calls A7 c7 Y _ R7.out).mono ?_);rintro e wv ⟨rfl,hd⟩;have hb:=hd.below;replace R6:=am (Kd.C_below R6.out hb);replace R7:=am (Kd.C_below R7.out hb);replace B4:=bbl g4 hb (h:=B4.out);replace HB:=bst hb (h:=HB.out);clear hb hd)
       | (go_at_call 182;(with_reducible refine (H6.out _ R6.out).mono ?_);rintro e wv ⟨A16,c16,rfl,N6,hb⟩;replace R6:=am (Kd.C_below R6.out hb);replace R7:=am (Kd.C_below R7.out hb);replace B4:=bbl g4 hb (h:=B4.out);replace HB:=bst hb (h:=HB.out);have K6:=am (rL (am N6));replace N6:=am (Kd.R_reads' N6).2.2;clear hb H6)
       | (go_at_call 182;(with_reducible refine (H7.out _ R7.out).mono ?_);rintro e wv ⟨A17,c17,rfl,N7,hb⟩;replace R6:=am (Kd.C_below R6.out hb);replace R7:=am (Kd.C_below R7.out hb);replace B4:=bbl g4 hb (h:=B4.out);replace HB:=bst hb (h:=HB.out);replace N6:=am (Kd.C_below N6.out hb);have K7:=am (rL (am N7));replace N7:=am (Kd.R_reads' N7).2.2;clear hb H7))
      go_roundg (X / 2 + Y / 2)
      case measure => omega
      case rel => exact ⟨X / 2,Y / 2,tw + 1,A16,c16,A17,c17,rfl,rfl,by go_num,Nat.le_refl _,by omega,K6,K7,N6,N7,HB,B4,⟨by rw [← HG.out,ND.gcd_ee hx hy,Nat.pow_succ,Nat.mul_comm 2,Nat.mul_assoc,Nat.mul_comm 2]⟩,⟨Nat.le_trans (ND.digs_mono (Nat.div_le_self _ _)) L6.out⟩,⟨Nat.le_trans (ND.digs_mono (Nat.div_le_self _ _)) L7.out⟩⟩
     ·have hy1:Y % 2 = 1:=by omega
      go_wp2_with (first
       | (go_at_call 181;(with_reducible refine (ref02_even.calls A6 c6 X _ R6.out).mono ?_);rintro e wv ⟨rfl,hd⟩;have hb:=hd.below;replace R6:=am (Kd.C_below R6.out hb);replace R7:=am (Kd.C_below R7.out hb);replace B4:=bbl g4 hb (h:=B4.out);replace HB:=bst hb (h:=HB.out);clear hb hd)
       | (go_at_call 181;(with_reducible refine (ref02_even.calls A7 c7 Y _ R7.out).mono ?_);rintro e wv ⟨rfl,hd⟩;have hb:=hd.below;replace R6:=am (Kd.C_below R6.out hb);replace R7:=am (Kd.C_below R7.out hb);replace B4:=bbl g4 hb (h:=B4.out);replace HB:=bst hb (h:=HB.out);clear hb hd)
       | (go_at_call 182;(with_reducible refine (H6.out _ R6.out).mono ?_);rintro e wv ⟨A16,c16,rfl,N6,hb⟩;replace R6:=am (Kd.C_below R6.out hb);replace R7:=am (Kd.C_below R7.out hb);replace B4:=bbl g4 hb (h:=B4.out);replace HB:=bst hb (h:=HB.out);have K6:=am (rL (am N6));replace N6:=am (Kd.R_reads' N6).2.2;clear hb H6))
      go_roundg (X / 2 + Y)
      case measure => omega
      case rel => exact ⟨X / 2,Y,tw,A16,c16,A7,c7,rfl,rfl,rfl,Nat.le_refl _,by omega,K6,C7,N6,R7,HB,B4,⟨by rw [← HG.out,ND.gcd_eo hx hy1]⟩,⟨Nat.le_trans (ND.digs_mono (Nat.div_le_self _ _)) L6.out⟩,L7⟩
    ·have hx1:X % 2 = 1:=by omega
     by_cases hy:Y % 2 = 0
     ·have H7:=am (fun (W:World) (h1:CI W A7 (ND.digs Y)) => ref02_half.calls A7 c7 (ND.digs Y) W h1 C7.out (ND.ok_digs _) (by have:=L7.out;omega))
      rw [ND.val_digs] at H7
      go_wp2_with (first
       | (go_at_call 181;(with_reducible refine (ref02_even.calls A6 c6 X _ R6.out).mono ?_);rintro e wv ⟨rfl,hd⟩;have hb:=hd.below;replace R6:=am (Kd.C_below R6.out hb);replace R7:=am (Kd.C_below R7.out hb);replace B4:=bbl g4 hb (h:=B4.out);replace HB:=bst hb (h:=HB.out);clear hb hd)
       | (go_at_call 181;(with_reducible refine (ref02_even.calls A7 c7 Y _ R7.out).mono ?_);rintro e wv ⟨rfl,hd⟩;have hb:=hd.below;replace R6:=am (Kd.C_below R6.out hb);replace R7:=am (Kd.C_below R7.out hb);replace B4:=bbl g4 hb (h:=B4.out);replace HB:=bst hb (h:=HB.out);clear hb hd)
       | (go_at_call 182;(with_reducible refine (H7.out _ R7.out).mono ?_);rintro e wv ⟨A17,c17,rfl,N7,hb⟩;replace R6:=am (Kd.C_below R6.out hb);replace R7:=am (Kd.C_below R7.out hb);replace B4:=bbl g4 hb (h:=B4.out);replace HB:=bst hb (h:=HB.out);have K7:=am (rL (am N7));replace N7:=am (Kd.R_reads' N7).2.2;clear hb H7))
      go_roundg (X + Y / 2)
      case measure => omega
      case rel => exact ⟨X,Y / 2,tw,A6,c6,A17,c17,rfl,rfl,rfl,Nat.le_refl _,hX,C6,K7,R6,N7,HB,B4,⟨by rw [← HG.out,ND.gcd_oe hx1 hy]⟩,L6,⟨Nat.le_trans (ND.digs_mono (Nat.div_le_self _ _)) L7.out⟩⟩
     ·by_cases hg:Y < X
      ·have hc:=cmpN_gt.2 hg
       have HL:=am (fun (W:World) (h1:CI W A6 (ND.digs X)) (h2:CI W A7 (ND.digs Y)) => ref02_less.calls A6 A7 c6 c7 (ND.digs X) (ND.digs Y) W h1 C6.out h2 C7.out (ND.ok_digs _) (ND.ok_digs _) (ND.digs_mono (Nat.le_of_lt hg)) (by rw [ND.val_digs,ND.val_digs];exact Nat.le_of_lt hg) (by have:=L6.out;omega))
       rw [ND.val_digs,ND.val_digs] at HL
       go_wp2_with (first
        | (go_at_call 181;(with_reducible refine (ref02_even.calls A6 c6 X _ R6.out).mono ?_);rintro e wv ⟨rfl,hd⟩;have hb:=hd.below;replace R6:=am (Kd.C_below R6.out hb);replace R7:=am (Kd.C_below R7.out hb);replace B4:=bbl g4 hb (h:=B4.out);replace HB:=bst hb (h:=HB.out);clear hb hd)
        | (go_at_call 181;(with_reducible refine (ref02_even.calls A7 c7 Y _ R7.out).mono ?_);rintro e wv ⟨rfl,hd⟩;have hb:=hd.below;replace R6:=am (Kd.C_below R6.out hb);replace R7:=am (Kd.C_below R7.out hb);replace B4:=bbl g4 hb (h:=B4.out);replace HB:=bst hb (h:=HB.out);clear hb hd)
        | (go_at_call 124;(with_reducible refine (ref02_cmp.calls A6 A7 c6 c7 X Y _ R6.out R7.out).mono ?_);rintro e wv ⟨rfl,hd⟩;have hb:=hd.below;replace R6:=am (Kd.C_below R6.out hb);replace R7:=am (Kd.C_below R7.out hb);replace B4:=bbl g4 hb (h:=B4.out);replace HB:=bst hb (h:=HB.out);clear hb hd)
        | (go_at_call 183;(with_reducible refine (HL.out _ R6.out R7.out).mono ?_);rintro e wv ⟨A1,c1,rfl,N1,hb⟩;replace R6:=am (Kd.C_below R6.out hb);replace R7:=am (Kd.C_below R7.out hb);replace B4:=bbl g4 hb (h:=B4.out);replace HB:=bst hb (h:=HB.out);have K1:=am (rL (am N1));replace N1:=am (Kd.R_reads' N1).2.2;clear hb HL))
       go_roundg (Y + (X - Y))
       case measure => omega
       case rel => exact ⟨Y,X - Y,tw,A7,c7,A1,c1,rfl,rfl,rfl,Nat.le_refl _,by omega,C7,K1,R7,N1,HB,B4,⟨by rw [← HG.out,ND.gcd_gt hg]⟩,L7,⟨Nat.le_trans (ND.digs_mono (Nat.sub_le _ _)) L6.out⟩⟩
      ·have hc:=mt cmpN_gt.1 hg
       have hle:X ≤ Y:=by omega
       have HL:=am (fun (W:World) (h1:CI W A7 (ND.digs Y)) (h2:CI W A6 (ND.digs X)) => ref02_less.calls A7 A6 c7 c6 (ND.digs Y) (ND.digs X) W h1 C7.out h2 C6.out (ND.ok_digs _) (ND.ok_digs _) (ND.digs_mono hle) (by rw [ND.val_digs,ND.val_digs];exact hle) (by have:=L7.out;omega))
       rw [ND.val_digs,ND.val_digs] at HL
       go_wp2_with (first
        | (go_at_call 181;(with_reducible refine (ref02_even.calls A6 c6 X _ R6.out).mono ?_);rintro e wv ⟨rfl,hd⟩;have hb:=hd.below;replace R6:=am (Kd.C_below R6.out hb);replace R7:=am (Kd.C_below R7.out hb);replace B4:=bbl g4 hb (h:=B4.out);replace HB:=bst hb (h:=HB.out);clear hb hd)
        | (go_at_call 181;(with_reducible refine (ref02_even.calls A7 c7 Y _ R7.out).mono ?_);rintro e wv ⟨rfl,hd⟩;have hb:=hd.below;replace R6:=am (Kd.C_below R6.out hb);replace R7:=am (Kd.C_below R7.out hb);replace B4:=bbl g4 hb (h:=B4.out);replace HB:=bst hb (h:=HB.out);clear hb hd)
        | (go_at_call 124;(with_reducible refine (ref02_cmp.calls A6 A7 c6 c7 X Y _ R6.out R7.out).mono ?_);rintro e wv ⟨rfl,hd⟩;have hb:=hd.below;replace R6:=am (Kd.C_below R6.out hb);replace R7:=am (Kd.C_below R7.out hb);replace B4:=bbl g4 hb (h:=B4.out);replace HB:=bst hb (h:=HB.out);clear hb hd)
        | (go_at_call 183;(with_reducible refine (HL.out _ R7.out R6.out).mono ?_);rintro e wv ⟨A1,c1,rfl,N1,hb⟩;replace R6:=am (Kd.C_below R6.out hb);replace R7:=am (Kd.C_below R7.out hb);replace B4:=bbl g4 hb (h:=B4.out);replace HB:=bst hb (h:=HB.out);have K1:=am (rL (am N1));replace N1:=am (Kd.R_reads' N1).2.2;clear hb HL))
       go_roundg (X + (Y - X))
       case measure => omega
       case rel => exact ⟨X,Y - X,tw,A6,c6,A1,c1,rfl,rfl,rfl,Nat.le_refl _,hX,C6,K1,R6,N1,HB,B4,⟨by rw [← HG.out,ND.gcd_le hle]⟩,L6,⟨Nat.le_trans (ND.digs_mono (Nat.sub_le _ _)) L7.out⟩⟩
end Go.Proofs.YtnbcnoabbdegpaaGreatDoor.V
