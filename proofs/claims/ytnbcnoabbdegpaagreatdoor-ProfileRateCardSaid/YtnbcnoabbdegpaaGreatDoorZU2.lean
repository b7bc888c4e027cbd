/- A part of the proof of the tied card of ProfileRate (chapter 53): the law returns true whatever the input. -/
import Derived.Test.YtnbcnoabbdegpaaGreatDoorZU1
set_option linter.unusedVariables false
set_option linter.unusedSimpArgs false
namespace Go.Proofs.YtnbcnoabbdegpaaGreatDoor.V
open Go.RowKit Go.Proofs.YtnbcnoabbdegpaaGreatDoorW.PrintWords Go.Proofs.YtnbcnoabbdegpaaGreatDoorW.PrintLast Go.Proofs.YtnbcnoabbdegpaaGreatDoorW.PrintMore
set_option linter.unusedVariables false
set_option linter.unusedSimpArgs false
mutual
def ancepsref50_Few.j0:Nat → Bool → List ByteArray → List Int → Option (Bool)
 | 0,_,_,_ => none
 | k + 1,x26,x138000,x138001 => if x26 = true then (some false) else (ancepsref50_Few.l0 k 0 0 x138000 x138001)
def ancepsref50_Few.l0:Nat → Int → Int → List ByteArray → List Int → Option (Bool)
 | 0,_,_,_,_ => none
 | k + 1,x3,x4,x138000,x138001 => if x4 < (x138000.length:Int) then (if 0 ≤ x4 then (ancepsref50_Few.l0 k (wrap64 (x3 + ((rdOf ByteArray.empty x138000 x4).size:Int))) (wrap64 (x4 + 1)) x138000 x138001) else (none)) else (some (decide (x3 ≤ 20000)))
end
def ancepsref50_Few.f (k:Nat) (l0_0:List ByteArray) (l0_1:List Int):Option (Bool):=if (l0_0.length:Int) > 60 then (if (l0_0.length:Int) ≤ 2000 then (ancepsref50_Few.j0 k true l0_0 l0_1) else (if (l0_0.length:Int) > 2010 then (ancepsref50_Few.j0 k true l0_0 l0_1) else (ancepsref50_Few.j0 k (decide ((l0_1.length:Int) > 2020)) l0_0 l0_1))) else (if (l0_0.length:Int) > 2010 then (ancepsref50_Few.j0 k true l0_0 l0_1) else (ancepsref50_Few.j0 k (decide ((l0_1.length:Int) > 2020)) l0_0 l0_1))
set_option maxHeartbeats 8000000 in
set_option maxRecDepth 100000 in
theorem ancepsref50_Few.calls (k:Nat) (A0_0:Option Addr) (c0_0:Nat) (l0_0:List ByteArray) (A0_1:Option Addr) (c0_1:Nat) (l0_1:List Int) (r:Bool) (w:World) (hr0_0:Kd.C Kd.string w A0_0 l0_0.length l0_0) (hc0_0:l0_0.length ≤ c0_0) (hr0_1:Kd.C (Kd.int .i64) w A0_1 l0_1.length l0_1) (hc0_1:l0_1.length ≤ c0_1) (h:ancepsref50_Few.f k l0_0 l0_1 = some r) :
  Calls Tryz.prog 19 #[.agg #[.slice A0_0 l0_0.length c0_0,.slice A0_1 l0_1.length c0_1]] w fun e w' => e = .returned (.bool r) ∧ Below w.heap.size w w':=by
 have hu26:=Tryz.underlying26
 have HR0_0:=Aside0.mk hr0_0
 have HC0_0:=Aside0.mk hc0_0
 clear hr0_0 hc0_0
 have HR0_1:=Aside0.mk hr0_1
 have HC0_1:=Aside0.mk hc0_1
 clear hr0_1 hc0_1
 have HB:=Aside0.mk (Below.refl w.heap.size w)
 have H:(if (l0_0.length:Int) > 60 then (if (l0_0.length:Int) ≤ 2000 then (ancepsref50_Few.j0 k true l0_0 l0_1) else (if (l0_0.length:Int) > 2010 then (ancepsref50_Few.j0 k true l0_0 l0_1) else (ancepsref50_Few.j0 k (decide ((l0_1.length:Int) > 2020)) l0_0 l0_1))) else (if (l0_0.length:Int) > 2010 then (ancepsref50_Few.j0 k true l0_0 l0_1) else (ancepsref50_Few.j0 k (decide ((l0_1.length:Int) > 2020)) l0_0 l0_1))) = some r:=h
 clear h
 have HC2:=Aside0.mk H
 clear H
 go_enter Tryz.func19,Tryz.ntmps19
 go_upto_region 1 with (first | ((with_reducible refine gate_dst (N:=1) rfl ?_);(try (refine gate_guard (by rfl) ?_;dsimp only));refine box_event ?hg (N:=1) ?hd (cs:=#[.slice A0_0 l0_0.length c0_0,.slice A0_1 l0_1.length c0_1]) (t:=26) ?hr ?_;(case hd => rfl);(case hg => rfl);(case hr => first | (go_simp;done) | (go_simp;rfl));intro gb137 hg w3 hbox hb;have n0_:=Aside0.mk (below_step bel hb);have n1_:=Aside0.mk (hbox);have n2_:=Aside0.mk ((by rw [hg];exact (below_size bel):w.heap.size ≤ gb137));have n3_:=Aside0.mk ((by rw [hg];exact (below_size bel):w.heap.size ≤ gb137));clear HB;have HB:=n0_;have BK137:=n1_;have GW137:=n2_;have GE137:=n3_;clear n0_ n1_ n2_ n3_;clear hb hbox hg))
 (try simp only [Act.put,List.setIfInBounds_toArray,List.set_cons_zero,List.set_cons_succ])
 go_cut [26] (fun v26 wc => ∃ (kq:Nat) (x26_1:Bool),v26 = .bool x26_1 ∧ Aside0 (ancepsref50_Few.j0 kq x26_1 l0_0 l0_1 = some r) ∧ Aside0 (kq ≤ k) ∧ Aside0 (wc.heap[gb137]? = some (.cells #[(.slice A0_0 l0_0.length c0_0),(.slice A0_1 l0_1.length c0_1)] 26 (0,0))) ∧ Aside0 (Below w.heap.size w wc))
 case first =>
  have H:=HC2.out
  clear HC2
  by_cases c4:(l0_0.length:Int) > 60
  ·rw [if_pos c4] at H
   have c4b0:decide (60 < (l0_0.length:Int)) = true:=decide_eq_true c4
   have c4b1:decide (60 < l0_0.length) = true:=decide_eq_true (by omega)
   clear c4
   (first | rw [c4b0] | (simp only [i64_w];rw [c4b0]) | skip)
   by_cases c5:(l0_0.length:Int) ≤ 2000
   ·rw [if_pos c5] at H
    have c5b0:decide ((l0_0.length:Int) ≤ 2000) = true:=decide_eq_true c5
    have c5b1:decide (l0_0.length ≤ 2000) = true:=decide_eq_true (by omega)
    clear c5
    have H':=Aside0.mk H
    clear H
    have hcz6_0:w3.cell? ⟨gb137,0,none⟩ = some (.slice A0_0 l0_0.length c0_0):=(blk_cell BK137.out 0).trans rfl
    have hcz6_1:w3.cell? ⟨gb137,1,none⟩ = some (.slice A0_1 l0_1.length c0_1):=(blk_cell BK137.out 1).trans rfl
    have hfz6_0:=blk_frozen BK137.out 0
    have hfz6_1:=blk_frozen BK137.out 1
    go_wp2
    go_meet
    case rel => exact ⟨_,(true),rs,H',⟨by first | omega | exact Nat.le_refl _⟩,⟨skb⟩,⟨bel⟩⟩
   ·rw [if_neg c5] at H
    have c5b0:decide ((l0_0.length:Int) ≤ 2000) = false:=decide_eq_false c5
    have c5b1:decide (l0_0.length ≤ 2000) = false:=decide_eq_false (by omega)
    clear c5
    by_cases c7:(l0_0.length:Int) > 2010
    ·rw [if_pos c7] at H
     have c7b0:decide (2010 < (l0_0.length:Int)) = true:=decide_eq_true c7
     have c7b1:decide (2010 < l0_0.length) = true:=decide_eq_true (by omega)
     clear c7
     have H':=Aside0.mk H
     clear H
     have hcz8_0:w3.cell? ⟨gb137,0,none⟩ = some (.slice A0_0 l0_0.length c0_0):=(blk_cell BK137.out 0).trans rfl
     have hcz8_1:w3.cell? ⟨gb137,1,none⟩ = some (.slice A0_1 l0_1.length c0_1):=(blk_cell BK137.out 1).trans rfl
     have hfz8_0:=blk_frozen BK137.out 0
     have hfz8_1:=blk_frozen BK137.out 1
     go_wp2
     go_meet
     case rel => exact ⟨_,(true),rs,H',⟨by first | omega | exact Nat.le_refl _⟩,⟨skb⟩,⟨bel⟩⟩
    ·rw [if_neg c7] at H
     have c7b0:decide (2010 < (l0_0.length:Int)) = false:=decide_eq_false c7
     have c7b1:decide (2010 < l0_0.length) = false:=decide_eq_false (by omega)
     clear c7
     have H':=Aside0.mk H
     clear H
     have hcz9_0:w3.cell? ⟨gb137,0,none⟩ = some (.slice A0_0 l0_0.length c0_0):=(blk_cell BK137.out 0).trans rfl
     have hcz9_1:w3.cell? ⟨gb137,1,none⟩ = some (.slice A0_1 l0_1.length c0_1):=(blk_cell BK137.out 1).trans rfl
     have hfz9_0:=blk_frozen BK137.out 0
     have hfz9_1:=blk_frozen BK137.out 1
     go_wp2
     go_meet
     case rel => exact ⟨_,(decide ((l0_1.length:Int) > 2020)),rs,H',⟨by first | omega | exact Nat.le_refl _⟩,⟨skb⟩,⟨bel⟩⟩
  ·rw [if_neg c4] at H
   have c4b0:decide (60 < (l0_0.length:Int)) = false:=decide_eq_false c4
   have c4b1:decide (60 < l0_0.length) = false:=decide_eq_false (by omega)
   clear c4
   (first | rw [c4b0] | (simp only [i64_w];rw [c4b0]) | skip)
   by_cases c10:(l0_0.length:Int) > 2010
   ·rw [if_pos c10] at H
    have c10b0:decide (2010 < (l0_0.length:Int)) = true:=decide_eq_true c10
    have c10b1:decide (2010 < l0_0.length) = true:=decide_eq_true (by omega)
    clear c10
    have H':=Aside0.mk H
    clear H
    have hcz11_0:w3.cell? ⟨gb137,0,none⟩ = some (.slice A0_0 l0_0.length c0_0):=(blk_cell BK137.out 0).trans rfl
    have hcz11_1:w3.cell? ⟨gb137,1,none⟩ = some (.slice A0_1 l0_1.length c0_1):=(blk_cell BK137.out 1).trans rfl
    have hfz11_0:=blk_frozen BK137.out 0
    have hfz11_1:=blk_frozen BK137.out 1
    go_wp2
    go_meet
    case rel => exact ⟨_,(true),rs,H',⟨by first | omega | exact Nat.le_refl _⟩,⟨skb⟩,⟨bel⟩⟩
   ·rw [if_neg c10] at H
    have c10b0:decide (2010 < (l0_0.length:Int)) = false:=decide_eq_false c10
    have c10b1:decide (2010 < l0_0.length) = false:=decide_eq_false (by omega)
    clear c10
    have H':=Aside0.mk H
    clear H
    have hcz12_0:w3.cell? ⟨gb137,0,none⟩ = some (.slice A0_0 l0_0.length c0_0):=(blk_cell BK137.out 0).trans rfl
    have hcz12_1:w3.cell? ⟨gb137,1,none⟩ = some (.slice A0_1 l0_1.length c0_1):=(blk_cell BK137.out 1).trans rfl
    have hfz12_0:=blk_frozen BK137.out 0
    have hfz12_1:=blk_frozen BK137.out 1
    go_wp2
    go_meet
    case rel => exact ⟨_,(decide ((l0_1.length:Int) > 2020)),rs,H',⟨by first | omega | exact Nat.le_refl _⟩,⟨skb⟩,⟨bel⟩⟩
 case rest =>
  clear HC2
  try clear c1
  try clear p2
  try clear c4
  try clear c4b0
  try clear c4b1
  try clear c5
  try clear c5b0
  try clear c5b1
  try clear c7
  try clear c7b0
  try clear c7b1
  try clear c10
  try clear c10b0
  try clear c10b1
  try clear hcz11_0
  try clear hcz11_1
  try clear hcz12_0
  try clear hcz12_1
  try clear hcz6_0
  try clear hcz6_1
  try clear hcz8_0
  try clear hcz8_1
  try clear hcz9_0
  try clear hcz9_1
  try clear hfz11_0
  try clear hfz11_1
  try clear hfz12_0
  try clear hfz12_1
  try clear hfz6_0
  try clear hfz6_1
  try clear hfz8_0
  try clear hfz8_1
  try clear hfz9_0
  try clear hfz9_1
  obtain ⟨kq,x26_1,rfl,HA,HJ1,BK137,HB⟩:=hcut
  cases kq with
  | zero => exact absurd HA.out (by simp [ancepsref50_Few.j0])
  | succ kj1 =>
   have H:=HA.out
   clear HA
   simp only [ancepsref50_Few.j0] at H
   by_cases c13:x26_1 = true
   ·subst c13
    have H1:(some false) = some r:=by rw [if_pos rfl] at H;exact H
    clear H
    have H:=H1
    clear H1
    obtain rfl:=Option.some.inj H
    go_wp2
    go_ret
    exact ⟨rr,bel⟩
   ·replace c13:=Bool.eq_false_iff.mpr c13
    subst c13
    have H1:(ancepsref50_Few.l0 kj1 0 0 l0_0 l0_1) = some r:=by rw [if_neg (show ¬ (false = true) by decide)] at H;exact H
    clear H
    have H:=H1
    clear H1
    have H':=Aside0.mk H
    clear H
    go_wp2
    go_loopg [3,4] kj1 (fun kq v3 v4 w' => ∃ (x3_2:Int) (x4_2:Int),v3 = .int .i64 x3_2 ∧ v4 = .int .i64 x4_2 ∧ Aside0 (ancepsref50_Few.l0 kq x3_2 x4_2 l0_0 l0_1 = some r) ∧ Aside0 (kq ≤ kj1) ∧ Aside0 (w'.heap[gb137]? = some (.cells #[(.slice A0_0 l0_0.length c0_0),(.slice A0_1 l0_1.length c0_1)] 26 (0,0))) ∧ Aside0 (Below w.heap.size w w'))
    case atStart => exact ⟨(0),(0),rs,rs,H',⟨Nat.le_refl _⟩,⟨skb⟩,⟨bel⟩⟩
    case round =>
     clear H'
     try clear c1
     try clear p2
     try clear c4
     try clear c4b0
     try clear c4b1
     try clear c5
     try clear c5b0
     try clear c5b1
     try clear c7
     try clear c7b0
     try clear c7b1
     try clear c10
     try clear c10b0
     try clear c10b1
     try clear c13
     try clear hcz11_0
     try clear hcz11_1
     try clear hcz12_0
     try clear hcz12_1
     try clear hcz6_0
     try clear hcz6_1
     try clear hcz8_0
     try clear hcz8_1
     try clear hcz9_0
     try clear hcz9_1
     try clear hfz11_0
     try clear hfz11_1
     try clear hfz12_0
     try clear hfz12_1
     try clear hfz6_0
     try clear hfz6_1
     try clear hfz8_0
     try clear hfz8_1
     try clear hfz9_0
     try clear hfz9_1
     try clear p2
     obtain ⟨x3_2,x4_2,rfl,rfl,HA,HK2,BK137,HB⟩:=hrel
     cases gk with
     | zero => exact absurd HA.out (by simp [ancepsref50_Few.l0])
     | succ k2 =>
      have H:=HA.out
      clear HA
      simp only [ancepsref50_Few.l0] at H
      by_cases c14:x4_2 < (l0_0.length:Int)
      ·rw [if_pos c14] at H
       have c14b0:decide (x4_2 < (l0_0.length:Int)) = true:=decide_eq_true c14
       clear c14
       by_cases c15:0 ≤ x4_2
       ·rw [if_pos c15] at H
        have c15b0:decide (0 ≤ x4_2) = true:=decide_eq_true c15
        clear c15
        have H':=Aside0.mk H
        clear H
        have hcz16_0:wr.cell? ⟨gb137,0,none⟩ = some (.slice A0_0 l0_0.length c0_0):=(blk_cell BK137.out 0).trans rfl
        have hcz16_1:wr.cell? ⟨gb137,1,none⟩ = some (.slice A0_1 l0_1.length c0_1):=(blk_cell BK137.out 1).trans rfl
        have hfz16_0:=blk_frozen BK137.out 0
        have hfz16_1:=blk_frozen BK137.out 1
        have p138:0 ≤ (x4_2:Int):=of_decide_eq_true asm
        have q138:x4_2 < (l0_0.length:Int):=of_decide_eq_true asm
        obtain ⟨ad138,e138,hx138_0⟩:=Kd.at_string HR0_0.out x4_2 p138 q138
        cases e138
        replace hx138_0:=(HB.out.cell (World.block_lt_of_cell? w _ hx138_0)).trans hx138_0
        replace p138:=eq_true p138
        replace q138:=eq_true q138
        go_wp2
        go_roundg k2
        case measure => have:=HJ1.out;have:=HK2.out;omega
        case rel => exact ⟨(wrap64 (x3_2 + ((rdOf ByteArray.empty l0_0 x4_2).size:Int))),(wrap64 (x4_2 + 1)),rs,rs,H',⟨by have:=HJ1.out;have:=HK2.out;omega⟩,⟨skb⟩,⟨bel⟩⟩
       ·rw [if_neg c15] at H
        exact absurd H (by simp)
      ·rw [if_neg c14] at H
       have c14b0:decide (x4_2 < (l0_0.length:Int)) = false:=decide_eq_false c14
       clear c14
       obtain rfl:=Option.some.inj H
       have hcz17_0:wr.cell? ⟨gb137,0,none⟩ = some (.slice A0_0 l0_0.length c0_0):=(blk_cell BK137.out 0).trans rfl
       have hcz17_1:wr.cell? ⟨gb137,1,none⟩ = some (.slice A0_1 l0_1.length c0_1):=(blk_cell BK137.out 1).trans rfl
       have hfz17_0:=blk_frozen BK137.out 0
       have hfz17_1:=blk_frozen BK137.out 1
       go_wp2
       go_ret
       exact ⟨rr,bel⟩
def ancepsref53_Few.l0:Nat → Int → Int → ByteArray → List (S72) → List ByteArray → List Int → Option (Bool)
 | 0,_,_,_,_,_,_ => none
 | k + 1,x3,x4,x140000,x140001,x140002,x140003 => if x4 < (x140001.length:Int) then (if x3 ≤ 3000 then (if 0 ≤ x4 then (ancepsref53_Few.l0 k (wrap64 ((wrap64 ((wrap64 (x3 + 1)) + (((rd_T72 x140001 x4).f0).size:Int))) + (((rd_T72 x140001 x4).f1).size:Int))) (wrap64 (x4 + 1)) x140000 x140001 x140002 x140003) else (none)) else (if (x140001.length:Int) ≤ 210 then (some false) else (some false))) else (if (x140001.length:Int) ≤ 210 then (if x3 ≤ 3000 then ((ancepsref50_Few.f k x140002 x140003).bind fun t142 => (some t142)) else (some false)) else (some false))
def ancepsref53_Few.f (k:Nat) (a0_0:ByteArray) (l0_1:List (S72)) (l0_2:List ByteArray) (l0_3:List Int):Option (Bool):=ancepsref53_Few.l0 k (a0_0.size:Int) 0 a0_0 l0_1 l0_2 l0_3
set_option maxHeartbeats 8000000 in
set_option maxRecDepth 100000 in
theorem ancepsref53_Few.calls (k:Nat) (a0_0:ByteArray) (A0_1:Option Addr) (c0_1:Nat) (l0_1:List (S72)) (A0_2:Option Addr) (c0_2:Nat) (l0_2:List ByteArray) (A0_3:Option Addr) (c0_3:Nat) (l0_3:List Int) (r:Bool) (w:World) (hr0_1:Kd.C k72 w A0_1 l0_1.length l0_1) (hc0_1:l0_1.length ≤ c0_1) (hr0_2:Kd.C Kd.string w A0_2 l0_2.length l0_2) (hc0_2:l0_2.length ≤ c0_2) (hr0_3:Kd.C (Kd.int .i64) w A0_3 l0_3.length l0_3) (hc0_3:l0_3.length ≤ c0_3) (h:ancepsref53_Few.f k a0_0 l0_1 l0_2 l0_3 = some r) :
  Calls Tryz.prog 5 #[.agg #[.string a0_0,.slice A0_1 l0_1.length c0_1,.slice A0_2 l0_2.length c0_2,.slice A0_3 l0_3.length c0_3]] w fun e w' => e = .returned (.bool r) ∧ Below w.heap.size w w':=by
 have hu28:=Tryz.underlying28
 have hu26:=Tryz.underlying26
 have HR0_1:=Aside0.mk hr0_1
 have HC0_1:=Aside0.mk hc0_1
 clear hr0_1 hc0_1
 have HR0_2:=Aside0.mk hr0_2
 have HC0_2:=Aside0.mk hc0_2
 clear hr0_2 hc0_2
 have HR0_3:=Aside0.mk hr0_3
 have HC0_3:=Aside0.mk hc0_3
 clear hr0_3 hc0_3
 have HB:=Aside0.mk (Below.refl w.heap.size w)
 have H:(ancepsref53_Few.l0 k (a0_0.size:Int) 0 a0_0 l0_1 l0_2 l0_3) = some r:=h
 clear h
 have H':=Aside0.mk H
 clear H
 go_enter Tryz.func5,Tryz.ntmps5
 go_wp2_with (first | ((with_reducible refine gate_dst (N:=1) rfl ?_);refine box_event ?hg (N:=1) ?hd (cs:=#[.string a0_0,.slice A0_1 l0_1.length c0_1,.slice A0_2 l0_2.length c0_2,.slice A0_3 l0_3.length c0_3]) (t:=28) ?hr ?_;(case hd => rfl);(case hg => rfl);(case hr => first | (go_simp;done) | (go_simp;rfl));intro gb139 hg w2 hbox hb;have n0_:=Aside0.mk (below_step bel hb);have n1_:=Aside0.mk (hbox);have n2_:=Aside0.mk ((by rw [hg];exact (below_size bel):w.heap.size ≤ gb139));have n3_:=Aside0.mk ((by rw [hg];exact (below_size bel):w.heap.size ≤ gb139));clear HB;have HB:=n0_;have BK139:=n1_;have GW139:=n2_;have GE139:=n3_;clear n0_ n1_ n2_ n3_;clear hb hbox hg;have hcz3_0:w2.cell? ⟨gb139,0,none⟩ = some (.string a0_0):=(blk_cell BK139.out 0).trans rfl;have hcz3_1:w2.cell? ⟨gb139,1,none⟩ = some (.slice A0_1 l0_1.length c0_1):=(blk_cell BK139.out 1).trans rfl;have hcz3_2:w2.cell? ⟨gb139,2,none⟩ = some (.slice A0_2 l0_2.length c0_2):=(blk_cell BK139.out 2).trans rfl;have hcz3_3:w2.cell? ⟨gb139,3,none⟩ = some (.slice A0_3 l0_3.length c0_3):=(blk_cell BK139.out 3).trans rfl;have hfz3_0:=blk_frozen BK139.out 0;have hfz3_1:=blk_frozen BK139.out 1;have hfz3_2:=blk_frozen BK139.out 2;have hfz3_3:=blk_frozen BK139.out 3))
 repeat (go_quiet (first | ((with_reducible refine gate_dst (N:=1) rfl ?_);refine box_event ?hg (N:=1) ?hd (cs:=#[.string a0_0,.slice A0_1 l0_1.length c0_1,.slice A0_2 l0_2.length c0_2,.slice A0_3 l0_3.length c0_3]) (t:=28) ?hr ?_;(case hd => rfl);(case hg => rfl);(case hr => first | (go_simp;done) | (go_simp;rfl));intro gb139 hg w2 hbox hb;have n0_:=Aside0.mk (below_step bel hb);have n1_:=Aside0.mk (hbox);have n2_:=Aside0.mk ((by rw [hg];exact (below_size bel):w.heap.size ≤ gb139));have n3_:=Aside0.mk ((by rw [hg];exact (below_size bel):w.heap.size ≤ gb139));clear HB;have HB:=n0_;have BK139:=n1_;have GW139:=n2_;have GE139:=n3_;clear n0_ n1_ n2_ n3_;clear hb hbox hg;have hcz3_0:w2.cell? ⟨gb139,0,none⟩ = some (.string a0_0):=(blk_cell BK139.out 0).trans rfl;have hcz3_1:w2.cell? ⟨gb139,1,none⟩ = some (.slice A0_1 l0_1.length c0_1):=(blk_cell BK139.out 1).trans rfl;have hcz3_2:w2.cell? ⟨gb139,2,none⟩ = some (.slice A0_2 l0_2.length c0_2):=(blk_cell BK139.out 2).trans rfl;have hcz3_3:w2.cell? ⟨gb139,3,none⟩ = some (.slice A0_3 l0_3.length c0_3):=(blk_cell BK139.out 3).trans rfl;have hfz3_0:=blk_frozen BK139.out 0;have hfz3_1:=blk_frozen BK139.out 1;have hfz3_2:=blk_frozen BK139.out 2;have hfz3_3:=blk_frozen BK139.out 3));try go_wp2_with (first | ((with_reducible refine gate_dst (N:=1) rfl ?_);refine box_event ?hg (N:=1) ?hd (cs:=#[.string a0_0,.slice A0_1 l0_1.length c0_1,.slice A0_2 l0_2.length c0_2,.slice A0_3 l0_3.length c0_3]) (t:=28) ?hr ?_;(case hd => rfl);(case hg => rfl);(case hr => first | (go_simp;done) | (go_simp;rfl));intro gb139 hg w2 hbox hb;have n0_:=Aside0.mk (below_step bel hb);have n1_:=Aside0.mk (hbox);have n2_:=Aside0.mk ((by rw [hg];exact (below_size bel):w.heap.size ≤ gb139));have n3_:=Aside0.mk ((by rw [hg];exact (below_size bel):w.heap.size ≤ gb139));clear HB;have HB:=n0_;have BK139:=n1_;have GW139:=n2_;have GE139:=n3_;clear n0_ n1_ n2_ n3_;clear hb hbox hg;have hcz3_0:w2.cell? ⟨gb139,0,none⟩ = some (.string a0_0):=(blk_cell BK139.out 0).trans rfl;have hcz3_1:w2.cell? ⟨gb139,1,none⟩ = some (.slice A0_1 l0_1.length c0_1):=(blk_cell BK139.out 1).trans rfl;have hcz3_2:w2.cell? ⟨gb139,2,none⟩ = some (.slice A0_2 l0_2.length c0_2):=(blk_cell BK139.out 2).trans rfl;have hcz3_3:w2.cell? ⟨gb139,3,none⟩ = some (.slice A0_3 l0_3.length c0_3):=(blk_cell BK139.out 3).trans rfl;have hfz3_0:=blk_frozen BK139.out 0;have hfz3_1:=blk_frozen BK139.out 1;have hfz3_2:=blk_frozen BK139.out 2;have hfz3_3:=blk_frozen BK139.out 3)))
 go_loopg [3,4] k (fun kq v3 v4 w' => ∃ (x3_1:Int) (x4_1:Int),v3 = .int .i64 x3_1 ∧ v4 = .int .i64 x4_1 ∧ Aside0 (ancepsref53_Few.l0 kq x3_1 x4_1 a0_0 l0_1 l0_2 l0_3 = some r) ∧ Aside0 (kq ≤ k) ∧ Aside0 (w'.heap[gb139]? = some (.cells #[.string a0_0,(.slice A0_1 l0_1.length c0_1),(.slice A0_2 l0_2.length c0_2),(.slice A0_3 l0_3.length c0_3)] 28 (0,0))) ∧ Aside0 (Below w.heap.size w w'))
 case atStart => exact ⟨((a0_0.size:Int)),(0),rs,rs,H',⟨Nat.le_refl _⟩,⟨skb⟩,⟨bel⟩⟩
 case round =>
  clear H'
  try clear p2
  try clear hcz3_0
  try clear hcz3_1
  try clear hcz3_2
  try clear hcz3_3
  try clear hfz3_0
  try clear hfz3_1
  try clear hfz3_2
  try clear hfz3_3
  obtain ⟨x3_1,x4_1,rfl,rfl,HA,HK1,BK139,HB⟩:=hrel
  cases gk with
  | zero => exact absurd HA.out (by simp [ancepsref53_Few.l0])
  | succ k1 =>
   have H:=HA.out
   clear HA
   simp only [ancepsref53_Few.l0] at H
   by_cases c4:x4_1 < (l0_1.length:Int)
   ·rw [if_pos c4] at H
    have c4b0:decide (x4_1 < (l0_1.length:Int)) = true:=decide_eq_true c4
    clear c4
    by_cases c5:x3_1 ≤ 3000
    ·rw [if_pos c5] at H
     have c5b0:decide (x3_1 ≤ 3000) = true:=decide_eq_true c5
     clear c5
     by_cases c6:0 ≤ x4_1
     ·rw [if_pos c6] at H
      have c6b0:decide (0 ≤ x4_1) = true:=decide_eq_true c6
      clear c6
      have H':=Aside0.mk H
      clear H
      have hcz7_0:wr.cell? ⟨gb139,0,none⟩ = some (.string a0_0):=(blk_cell BK139.out 0).trans rfl
      have hcz7_1:wr.cell? ⟨gb139,1,none⟩ = some (.slice A0_1 l0_1.length c0_1):=(blk_cell BK139.out 1).trans rfl
      have hcz7_2:wr.cell? ⟨gb139,2,none⟩ = some (.slice A0_2 l0_2.length c0_2):=(blk_cell BK139.out 2).trans rfl
      have hcz7_3:wr.cell? ⟨gb139,3,none⟩ = some (.slice A0_3 l0_3.length c0_3):=(blk_cell BK139.out 3).trans rfl
      have hfz7_0:=blk_frozen BK139.out 0
      have hfz7_1:=blk_frozen BK139.out 1
      have hfz7_2:=blk_frozen BK139.out 2
      have hfz7_3:=blk_frozen BK139.out 3
      have p140:0 ≤ (x4_1:Int):=of_decide_eq_true asm
      have q140:x4_1 < (l0_1.length:Int):=of_decide_eq_true asm
      obtain ⟨ad140,e140,hx140_0,hx140_1⟩:=at_T72 HR0_1.out x4_1 p140 q140
      cases e140
      replace hx140_0:=(HB.out.cell (World.block_lt_of_cell? w _ hx140_0)).trans hx140_0
      replace hx140_1:=(HB.out.cell (World.block_lt_of_cell? w _ hx140_1)).trans hx140_1
      replace p140:=eq_true p140
      replace q140:=eq_true q140
      have p141:0 ≤ (x4_1:Int):=of_decide_eq_true asm
      have q141:x4_1 < (l0_1.length:Int):=of_decide_eq_true asm
      obtain ⟨ad141,e141,hx141_0,hx141_1⟩:=at_T72 HR0_1.out x4_1 p141 q141
      obtain rfl:ad140 = ad141:=(by injection e141)
      replace hx141_0:=(HB.out.cell (World.block_lt_of_cell? w _ hx141_0)).trans hx141_0
      replace hx141_1:=(HB.out.cell (World.block_lt_of_cell? w _ hx141_1)).trans hx141_1
      replace p141:=eq_true p141
      replace q141:=eq_true q141
      go_wp2
      repeat (go_quiet (fail);try go_wp2)
      go_roundg k1
      case measure => have:=HK1.out;omega
      case rel => exact ⟨(wrap64 ((wrap64 ((wrap64 (x3_1 + 1)) + (((rd_T72 l0_1 x4_1).f0).size:Int))) + (((rd_T72 l0_1 x4_1).f1).size:Int))),(wrap64 (x4_1 + 1)),rs,rs,H',⟨by have:=HK1.out;omega⟩,⟨skb⟩,⟨bel⟩⟩
     ·rw [if_neg c6] at H
      exact absurd H (by simp)
    ·rw [if_neg c5] at H
     have c5b0:decide (x3_1 ≤ 3000) = false:=decide_eq_false c5
     clear c5
     by_cases c8:(l0_1.length:Int) ≤ 210
     ·rw [if_pos c8] at H
      have c8b0:decide ((l0_1.length:Int) ≤ 210) = true:=decide_eq_true c8
      have c8b1:decide (l0_1.length ≤ 210) = true:=decide_eq_true (by omega)
      clear c8
      obtain rfl:=Option.some.inj H
      have hcz9_0:wr.cell? ⟨gb139,0,none⟩ = some (.string a0_0):=(blk_cell BK139.out 0).trans rfl
      have hcz9_1:wr.cell? ⟨gb139,1,none⟩ = some (.slice A0_1 l0_1.length c0_1):=(blk_cell BK139.out 1).trans rfl
      have hcz9_2:wr.cell? ⟨gb139,2,none⟩ = some (.slice A0_2 l0_2.length c0_2):=(blk_cell BK139.out 2).trans rfl
      have hcz9_3:wr.cell? ⟨gb139,3,none⟩ = some (.slice A0_3 l0_3.length c0_3):=(blk_cell BK139.out 3).trans rfl
      have hfz9_0:=blk_frozen BK139.out 0
      have hfz9_1:=blk_frozen BK139.out 1
      have hfz9_2:=blk_frozen BK139.out 2
      have hfz9_3:=blk_frozen BK139.out 3
      go_wp2
      repeat (go_quiet (fail);try go_wp2)
      go_ret
      exact ⟨rr,bel⟩
     ·rw [if_neg c8] at H
      have c8b0:decide ((l0_1.length:Int) ≤ 210) = false:=decide_eq_false c8
      have c8b1:decide (l0_1.length ≤ 210) = false:=decide_eq_false (by omega)
      clear c8
      obtain rfl:=Option.some.inj H
      have hcz10_0:wr.cell? ⟨gb139,0,none⟩ = some (.string a0_0):=(blk_cell BK139.out 0).trans rfl
      have hcz10_1:wr.cell? ⟨gb139,1,none⟩ = some (.slice A0_1 l0_1.length c0_1):=(blk_cell BK139.out 1).trans rfl
      have hcz10_2:wr.cell? ⟨gb139,2,none⟩ = some (.slice A0_2 l0_2.length c0_2):=(blk_cell BK139.out 2).trans rfl
      have hcz10_3:wr.cell? ⟨gb139,3,none⟩ = some (.slice A0_3 l0_3.length c0_3):=(blk_cell BK139.out 3).trans rfl
      have hfz10_0:=blk_frozen BK139.out 0
      have hfz10_1:=blk_frozen BK139.out 1
      have hfz10_2:=blk_frozen BK139.out 2
      have hfz10_3:=blk_frozen BK139.out 3
      go_wp2
      repeat (go_quiet (fail);try go_wp2)
      go_ret
      exact ⟨rr,bel⟩
   ·rw [if_neg c4] at H
    have c4b0:decide (x4_1 < (l0_1.length:Int)) = false:=decide_eq_false c4
    clear c4
    by_cases c11:(l0_1.length:Int) ≤ 210
    ·rw [if_pos c11] at H
     have c11b0:decide ((l0_1.length:Int) ≤ 210) = true:=decide_eq_true c11
     have c11b1:decide (l0_1.length ≤ 210) = true:=decide_eq_true (by omega)
     clear c11
     by_cases c12:x3_1 ≤ 3000
     ·rw [if_pos c12] at H
      have c12b0:decide (x3_1 ≤ 3000) = true:=decide_eq_true c12
      clear c12
      replace H:=Option.bind_eq_some_iff.mp H
      obtain ⟨t142,A130,H⟩:=H
      replace H:(some t142) = some r:=H
      have A13:=Aside0.mk A130
      clear A130
      obtain rfl:=Option.some.inj H
      have hcz14_0:wr.cell? ⟨gb139,0,none⟩ = some (.string a0_0):=(blk_cell BK139.out 0).trans rfl
      have hcz14_1:wr.cell? ⟨gb139,1,none⟩ = some (.slice A0_1 l0_1.length c0_1):=(blk_cell BK139.out 1).trans rfl
      have hcz14_2:wr.cell? ⟨gb139,2,none⟩ = some (.slice A0_2 l0_2.length c0_2):=(blk_cell BK139.out 2).trans rfl
      have hcz14_3:wr.cell? ⟨gb139,3,none⟩ = some (.slice A0_3 l0_3.length c0_3):=(blk_cell BK139.out 3).trans rfl
      have hfz14_0:=blk_frozen BK139.out 0
      have hfz14_1:=blk_frozen BK139.out 1
      have hfz14_2:=blk_frozen BK139.out 2
      have hfz14_3:=blk_frozen BK139.out 3
      go_wp2_with (first | (go_at_call 19;(with_reducible refine (ancepsref50_Few.calls k1 _ _ l0_2 _ _ l0_3 t142 _ rdc aso rdc aso A13.out).mono ?_);rintro e w15 ⟨rfl,hb⟩;have n0_:=Aside0.mk (blk_below (g:=gb139) (o:=.cells #[.string a0_0,.slice A0_1 l0_1.length c0_1,.slice A0_2 l0_2.length c0_2,.slice A0_3 l0_3.length c0_3] 28 (0,0)) skb hb);have n1_:=Aside0.mk (below_step bel hb);clear BK139;clear HB;have BK139:=n0_;have HB:=n1_;clear n0_ n1_;(try clear hb);(try clear hb2);(try clear hk);(try clear hi)))
      repeat (go_quiet (first | (go_at_call 19;(with_reducible refine (ancepsref50_Few.calls k1 _ _ l0_2 _ _ l0_3 t142 _ rdc aso rdc aso A13.out).mono ?_);rintro e w15 ⟨rfl,hb⟩;have n0_:=Aside0.mk (blk_below (g:=gb139) (o:=.cells #[.string a0_0,.slice A0_1 l0_1.length c0_1,.slice A0_2 l0_2.length c0_2,.slice A0_3 l0_3.length c0_3] 28 (0,0)) skb hb);have n1_:=Aside0.mk (below_step bel hb);clear BK139;clear HB;have BK139:=n0_;have HB:=n1_;clear n0_ n1_;(try clear hb);(try clear hb2);(try clear hk);(try clear hi)));try go_wp2_with (first | (go_at_call 19;(with_reducible refine (ancepsref50_Few.calls k1 _ _ l0_2 _ _ l0_3 t142 _ rdc aso rdc aso A13.out).mono ?_);rintro e w15 ⟨rfl,hb⟩;have n0_:=Aside0.mk (blk_below (g:=gb139) (o:=.cells #[.string a0_0,.slice A0_1 l0_1.length c0_1,.slice A0_2 l0_2.length c0_2,.slice A0_3 l0_3.length c0_3] 28 (0,0)) skb hb);have n1_:=Aside0.mk (below_step bel hb);clear BK139;clear HB;have BK139:=n0_;have HB:=n1_;clear n0_ n1_;(try clear hb);(try clear hb2);(try clear hk);(try clear hi))))
      go_ret
      exact ⟨rr,bel⟩
     ·rw [if_neg c12] at H
      have c12b0:decide (x3_1 ≤ 3000) = false:=decide_eq_false c12
      clear c12
      obtain rfl:=Option.some.inj H
      have hcz16_0:wr.cell? ⟨gb139,0,none⟩ = some (.string a0_0):=(blk_cell BK139.out 0).trans rfl
      have hcz16_1:wr.cell? ⟨gb139,1,none⟩ = some (.slice A0_1 l0_1.length c0_1):=(blk_cell BK139.out 1).trans rfl
      have hcz16_2:wr.cell? ⟨gb139,2,none⟩ = some (.slice A0_2 l0_2.length c0_2):=(blk_cell BK139.out 2).trans rfl
      have hcz16_3:wr.cell? ⟨gb139,3,none⟩ = some (.slice A0_3 l0_3.length c0_3):=(blk_cell BK139.out 3).trans rfl
      have hfz16_0:=blk_frozen BK139.out 0
      have hfz16_1:=blk_frozen BK139.out 1
      have hfz16_2:=blk_frozen BK139.out 2
      have hfz16_3:=blk_frozen BK139.out 3
      go_wp2
      repeat (go_quiet (fail);try go_wp2)
      go_ret
      exact ⟨rr,bel⟩
    ·rw [if_neg c11] at H
     have c11b0:decide ((l0_1.length:Int) ≤ 210) = false:=decide_eq_false c11
     have c11b1:decide (l0_1.length ≤ 210) = false:=decide_eq_false (by omega)
     clear c11
     obtain rfl:=Option.some.inj H
     have hcz17_0:wr.cell? ⟨gb139,0,none⟩ = some (.string a0_0):=(blk_cell BK139.out 0).trans rfl
     have hcz17_1:wr.cell? ⟨gb139,1,none⟩ = some (.slice A0_1 l0_1.length c0_1):=(blk_cell BK139.out 1).trans rfl
     have hcz17_2:wr.cell? ⟨gb139,2,none⟩ = some (.slice A0_2 l0_2.length c0_2):=(blk_cell BK139.out 2).trans rfl
     have hcz17_3:wr.cell? ⟨gb139,3,none⟩ = some (.slice A0_3 l0_3.length c0_3):=(blk_cell BK139.out 3).trans rfl
     have hfz17_0:=blk_frozen BK139.out 0
     have hfz17_1:=blk_frozen BK139.out 1
     have hfz17_2:=blk_frozen BK139.out 2
     have hfz17_3:=blk_frozen BK139.out 3
     go_wp2
     repeat (go_quiet (fail);try go_wp2)
     go_ret
     exact ⟨rr,bel⟩
def ancepsref05_small.f (a0:Int):Option (Bool):=if a0 ≥ 97 then (some (decide (a0 ≤ 122))) else (some false)
set_option maxHeartbeats 8000000 in
set_option maxRecDepth 100000 in
theorem ancepsref05_small.calls (a0:Int) (r:Bool) (w:World) (h:ancepsref05_small.f a0 = some r) :
  Calls Tryz.prog 122 #[.int .u8 a0] w fun e w' => e = .returned (.bool r) ∧ Drawn0 w w':=by
 have H:(if a0 ≥ 97 then (some (decide (a0 ≤ 122))) else (some false)) = some r:=h
 clear h
 by_cases c2:a0 ≥ 97
 ·rw [if_pos c2] at H
  have c2b0:decide (97 ≤ a0) = true:=decide_eq_true c2
  clear c2
  obtain rfl:=Option.some.inj H
  go_enter Tryz.func122,Tryz.ntmps122
  go_wp2
  go_ret
  exact ⟨rs,drw⟩
 ·rw [if_neg c2] at H
  have c2b0:decide (97 ≤ a0) = false:=decide_eq_false c2
  clear c2
  obtain rfl:=Option.some.inj H
  go_enter Tryz.func122,Tryz.ntmps122
  go_wp2
  go_ret
  exact ⟨rs,drw⟩
def ancepsref05_digit.f (a0:Int):Option (Bool):=if a0 ≥ 48 then (some (decide (a0 ≤ 57))) else (some false)
set_option maxHeartbeats 8000000 in
set_option maxRecDepth 100000 in
theorem ancepsref05_digit.calls (a0:Int) (r:Bool) (w:World) (h:ancepsref05_digit.f a0 = some r) :
  Calls Tryz.prog 123 #[.int .u8 a0] w fun e w' => e = .returned (.bool r) ∧ Drawn0 w w':=by
 have H:(if a0 ≥ 48 then (some (decide (a0 ≤ 57))) else (some false)) = some r:=h
 clear h
 by_cases c2:a0 ≥ 48
 ·rw [if_pos c2] at H
  have c2b0:decide (48 ≤ a0) = true:=decide_eq_true c2
  clear c2
  obtain rfl:=Option.some.inj H
  go_enter Tryz.func123,Tryz.ntmps123
  go_wp2
  go_ret
  exact ⟨rs,drw⟩
 ·rw [if_neg c2] at H
  have c2b0:decide (48 ≤ a0) = false:=decide_eq_false c2
  clear c2
  obtain rfl:=Option.some.inj H
  go_enter Tryz.func123,Tryz.ntmps123
  go_wp2
  go_ret
  exact ⟨rs,drw⟩
mutual
def ancepsref05_name.j0:Nat → ByteArray → Bool → Option (Int)
 | 0,_,_ => none
 | k + 1,x0,x11 => if x11 = true then (some 0) else (ancepsref05_name.l0 k x0 1)
def ancepsref05_name.l0:Nat → ByteArray → Int → Option (Int)
 | 0,_,_ => none
 | k + 1,x0,x3 => if x3 < (x0.size:Int) then (if 0 ≤ x3 then ((ancepsref05_small.f (bt x0 x3)).bind fun t144 => (if t144 = true then (ancepsref05_name.j2 k x0 x3 true) else ((ancepsref05_digit.f (bt x0 x3)).bind fun t145 => (ancepsref05_name.j2 k x0 x3 t145)))) else (none)) else (some x3)
def ancepsref05_name.j2:Nat → ByteArray → Int → Bool → Option (Int)
 | 0,_,_,_ => none
 | k + 1,x0,x3,x25 => if x25 = true then (ancepsref05_name.l0 k x0 (wrap64 (x3 + 1))) else (if 0 ≤ x3 then (if x3 < (x0.size:Int) then (if (bt x0 x3) = 45 then (if (wrap64 (x3 + 1)) = (x0.size:Int) then (some x3) else (if 0 ≤ (wrap64 (x3 + 1)) then (if (wrap64 (x3 + 1)) < (x0.size:Int) then ((ancepsref05_small.f (bt x0 (wrap64 (x3 + 1)))).bind fun t146 => (if t146 = true then (ancepsref05_name.l0 k x0 (wrap64 (x3 + 2))) else ((ancepsref05_digit.f (bt x0 (wrap64 (x3 + 1)))).bind fun t147 => (if t147 = true then (ancepsref05_name.l0 k x0 (wrap64 (x3 + 2))) else (some x3))))) else (none)) else (none))) else (some x3)) else (none)) else (none))
end
def ancepsref05_name.f (k:Nat) (a0:ByteArray):Option (Int):=if a0.toList = ([]:List UInt8) then (ancepsref05_name.j0 k a0 true) else (if 0 < (a0.size:Int) then ((ancepsref05_small.f (bt a0 0)).bind fun t143 => (ancepsref05_name.j0 k a0 (!t143))) else (none))
set_option maxHeartbeats 8000000 in
set_option maxRecDepth 100000 in
theorem ancepsref05_name.calls (k:Nat) (a0:ByteArray) (r:Int) (w:World) (h:ancepsref05_name.f k a0 = some r) :
  Calls Tryz.prog 58 #[.string a0] w fun e w' => e = .returned (.int .i64 r) ∧ Drawn0 w w':=by
 have H:=am h
 clear h
 unfold ancepsref05_name.f at H
 go_enter Tryz.func58,Tryz.ntmps58
 go_upto_region 1 with (fail)
 go_cut [11] (fun v11 wc => ∃ (kq:Nat) (b:Bool),v11 = .bool b ∧ Aside0 (ancepsref05_name.j0 kq a0 b = some r) ∧ Aside0 (kq ≤ k) ∧ Drawn0 w wc)
 case first =>
  have hx:∀ h:0 < a0.size,((a0[0]'h).toNat:Int) = bt a0 0:=bt_at a0 0
  go_wp2_with (first | (go_at_call 122;obtain ⟨t,A,H⟩:=bE (jn (iF H (by assumption))).2;(with_reducible refine (ancepsref05_small.calls (bt a0 0) t _ A.out).mono ?_);rintro e w' ⟨rfl,⟨nd,rfl⟩⟩))
  ·go_meet
   case rel => exact ⟨_,true,rs,iT H (by assumption),⟨Nat.le_refl _⟩,drw⟩
  ·go_meet
   case rel => exact ⟨_,!t,rs,H,⟨Nat.le_refl _⟩,drw⟩
  ·exact absurd (jn (iF H (by assumption))).1 (by omega)
 case rest =>
  clear H
  obtain ⟨kq,b,rfl,H,HJ,⟨mc,rfl⟩⟩:=hcut
  cases kq with
  | zero => exact absurd H.out (by simp [ancepsref05_name.j0])
  | succ kj =>
   simp only [ancepsref05_name.j0] at H
   cases b
   rotate_left
   ·obtain rfl:=sj (uT H rfl)
    go_wp2
    go_ret
    exact ⟨rs,drw⟩
   ·go_wp2
    go_loopg [3] kj (fun kq v3 w' => ∃ x:Int,v3 = .int .i64 x ∧ Aside0 (ancepsref05_name.l0 kq a0 x = some r) ∧ Aside0 (kq ≤ kj) ∧ Drawn0 w w')
    case atStart => exact ⟨1,rs,uF H rfl,⟨Nat.le_refl _⟩,drw⟩
    case round =>
     clear H
     obtain ⟨x,rfl,H,HK,⟨m,rfl⟩⟩:=hrel
     cases gk with
     | zero => exact absurd H.out (by simp [ancepsref05_name.l0])
     | succ k1 =>
      simp only [ancepsref05_name.l0] at H
      by_cases c:x < (a0.size:Int)
      ·replace H:=jn (iT H c)
       obtain ⟨c0,H⟩:=H
       have hx:=bt_at a0 x
       go_upto_region 5 with (fail)
       go_cut [25] (fun v25 wc => ∃ (kq:Nat) (b:Bool),v25 = .bool b ∧ Aside0 (ancepsref05_name.j2 kq a0 x b = some r) ∧ Aside0 (kq ≤ k1) ∧ Drawn0 w wc)
       case first =>
        go_wp2_with (first | (go_at_call 122;obtain ⟨t,A,H⟩:=bE H;(with_reducible refine (ancepsref05_small.calls (bt a0 x) t _ A.out).mono ?_);rintro e w' ⟨rfl,⟨nd,rfl⟩⟩) | (go_at_call 123;obtain ⟨t2,A2,H⟩:=bE (iF H (by assumption));(with_reducible refine (ancepsref05_digit.calls (bt a0 x) t2 _ A2.out).mono ?_);rintro e w' ⟨rfl,⟨nd2,rfl⟩⟩))
        ·go_meet
         case rel => exact ⟨_,true,rs,uT H (by assumption),⟨Nat.le_refl _⟩,drw⟩
        ·go_meet
         case rel => exact ⟨_,t2,rs,H,⟨Nat.le_refl _⟩,drw⟩
       case rest =>
        clear H
        obtain ⟨kq,b2,rfl,H,HJ2,⟨m2,rfl⟩⟩:=hcut
        cases kq with
        | zero => exact absurd H.out (by simp [ancepsref05_name.j2])
        | succ k2 =>
         simp only [ancepsref05_name.j2] at H
         have hx1:=bt_at a0 (wrap64 (x + 1))
         cases b2
         rotate_left
         ·replace H:=uT H rfl
          go_wp2
          go_roundg k2
          case measure => have:=HJ2.out;omega
          case rel => exact ⟨_,rs,H,⟨by have:=HJ2.out;have:=HK.out;omega⟩,drw⟩
         replace H:=(jn (jn (uF H rfl)).2).2
         go_wp2_with (first | (go_at_call 122;obtain ⟨t,A,H⟩:=bE (jn (jn (iF (iT H (by assumption)) (by assumption))).2).2;(with_reducible refine (ancepsref05_small.calls (bt a0 (wrap64 (x + 1))) t _ A.out).mono ?_);rintro e w' ⟨rfl,⟨nd,rfl⟩⟩) | (go_at_call 123;obtain ⟨t2,A2,H⟩:=bE (iF H (by assumption));(with_reducible refine (ancepsref05_digit.calls (bt a0 (wrap64 (x + 1))) t2 _ A2.out).mono ?_);rintro e w' ⟨rfl,⟨nd2,rfl⟩⟩))
         ·obtain rfl:=sj (iT (iT H (by assumption)) (by assumption))
          go_ret
          exact ⟨rs,drw⟩
         ·go_roundg k2
          case measure => have:=HJ2.out;omega
          case rel => exact ⟨_,rs,iT H (by assumption),⟨by have:=HJ2.out;have:=HK.out;omega⟩,drw⟩
         ·obtain rfl:=sj (iF H (by simp_all))
          go_ret
          exact ⟨rs,drw⟩
         ·go_roundg k2
          case measure => have:=HJ2.out;omega
          case rel => exact ⟨_,rs,iT H (by simp_all),⟨by have:=HJ2.out;have:=HK.out;omega⟩,drw⟩
         ·have q:=jn (iF (iT H (by assumption)) (by assumption))
          exact absurd (And.intro q.1 (jn q.2).1) (by assumption)
         ·obtain rfl:=sj (iF H (by assumption))
          go_ret
          exact ⟨rs,drw⟩
      ·go_wp2
       obtain rfl:=sj (iF H (by omega))
       go_ret
       exact ⟨rs,drw⟩
def ancepsref05_IsName.f (k:Nat) (a0:ByteArray):Option (Bool):=if a0.toList = ([]:List UInt8) then (some false) else (if (a0.size:Int) ≤ 20 then ((ancepsref05_name.f k a0).bind fun t148 => (some (t148 == (a0.size:Int)))) else (some false))
set_option maxHeartbeats 8000000 in
set_option maxRecDepth 100000 in
theorem ancepsref05_IsName.calls (k:Nat) (a0:ByteArray) (r:Bool) (w:World) (h:ancepsref05_IsName.f k a0 = some r) :
  Calls Tryz.prog 31 #[.string a0] w fun e w' => e = .returned (.bool r) ∧ Drawn0 w w':=by
 have H:(if a0.toList = ([]:List UInt8) then (some false) else (if (a0.size:Int) ≤ 20 then ((ancepsref05_name.f k a0).bind fun t148 => (some (t148 == (a0.size:Int)))) else (some false))) = some r:=h
 clear h
 by_cases c2:a0.toList = ([]:List UInt8)
 ·rw [if_pos c2] at H
  have c2b0:(a0.toList == ([]:List UInt8)) = true:=beq_iff_eq.mpr c2
  have c2b1:(a0.toList != ([]:List UInt8)) = false:=bne_eq_false_iff_eq.mpr c2
  clear c2
  obtain rfl:=Option.some.inj H
  go_enter Tryz.func31,Tryz.ntmps31
  go_wp2
  go_ret
  exact ⟨rs,drw⟩
 ·rw [if_neg c2] at H
  have c2b0:(a0.toList == ([]:List UInt8)) = false:=beq_eq_false_iff_ne.mpr c2
  have c2b1:(a0.toList != ([]:List UInt8)) = true:=bne_iff_ne.mpr c2
  by_cases c3:(a0.size:Int) ≤ 20
  ·rw [if_pos c3] at H
   have c3b0:decide ((a0.size:Int) ≤ 20) = true:=decide_eq_true c3
   have c3b1:decide (a0.size ≤ 20) = true:=decide_eq_true (by omega)
   clear c3
   replace H:=Option.bind_eq_some_iff.mp H
   obtain ⟨t148,A40,H⟩:=H
   replace H:(some (t148 == (a0.size:Int))) = some r:=H
   have A4:=Aside0.mk A40
   clear A40
   obtain rfl:=Option.some.inj H
   go_enter Tryz.func31,Tryz.ntmps31
   go_wp2_with (first | (go_at_call 58;(with_reducible refine (ancepsref05_name.calls k a0 t148 _ A4.out).mono ?_);rintro e w' ⟨rfl,⟨nd,rfl⟩⟩))
   go_ret
   exact ⟨rs,drw⟩
  ·rw [if_neg c3] at H
   have c3b0:decide ((a0.size:Int) ≤ 20) = false:=decide_eq_false c3
   have c3b1:decide (a0.size ≤ 20) = false:=decide_eq_false (by omega)
   clear c3
   obtain rfl:=Option.some.inj H
   go_enter Tryz.func31,Tryz.ntmps31
   go_wp2
   go_ret
   exact ⟨rs,drw⟩
def ancepsref01_Valid.l0:Nat → ByteArray → Int → Option (Int)
 | 0,_,_ => none
 | k + 1,x0,x3 => if x3 < (x0.size:Int) then (if 0 ≤ x3 then (if (bt x0 x3) < 32 then (some 2) else (if (bt x0 x3) > 126 then (some 2) else (ancepsref01_Valid.l0 k x0 (wrap64 (x3 + 1))))) else (none)) else (some 0)
def ancepsref01_Valid.f (k:Nat) (a0:ByteArray):Option (Int):=if (a0.size:Int) > 120 then (some 3) else (ancepsref01_Valid.l0 k a0 0)
set_option maxHeartbeats 8000000 in
set_option maxRecDepth 100000 in
theorem ancepsref01_Valid.calls (k:Nat) (a0:ByteArray) (r:Int) (w:World) (h:ancepsref01_Valid.f k a0 = some r) :
  Calls Tryz.prog 55 #[.string a0] w fun e w' => e = .returned (.int .i64 r) ∧ Drawn0 w w':=by
 have H:(if (a0.size:Int) > 120 then (some 3) else (ancepsref01_Valid.l0 k a0 0)) = some r:=h
 clear h
 by_cases c2:(a0.size:Int) > 120
 ·rw [if_pos c2] at H
  have c2b0:decide (120 < (a0.size:Int)) = true:=decide_eq_true c2
  have c2b1:decide (120 < a0.size) = true:=decide_eq_true (by omega)
  clear c2
  obtain rfl:=Option.some.inj H
  go_enter Tryz.func55,Tryz.ntmps55
  go_wp2
  go_ret
  exact ⟨rs,drw⟩
 ·rw [if_neg c2] at H
  have c2b0:decide (120 < (a0.size:Int)) = false:=decide_eq_false c2
  have c2b1:decide (120 < a0.size) = false:=decide_eq_false (by omega)
  clear c2
  have H':=Aside0.mk H
  clear H
  go_enter Tryz.func55,Tryz.ntmps55
  go_wp2
  go_loopg [3] k (fun kq v3 w' => ∃ (x3_1:Int),v3 = .int .i64 x3_1 ∧ Aside0 (ancepsref01_Valid.l0 kq a0 x3_1 = some r) ∧ Aside0 (kq ≤ k) ∧ Drawn0 w w')
  case atStart => exact ⟨(0),rs,H',⟨Nat.le_refl _⟩,drw⟩
  case round =>
   clear H'
   try clear c1
   try clear c2
   try clear c2b0
   try clear c2b1
   try clear p2
   obtain ⟨x3_1,rfl,HA,HK1,⟨m1,rfl⟩⟩:=hrel
   cases gk with
   | zero => exact absurd HA.out (by simp [ancepsref01_Valid.l0])
   | succ k1 =>
    have H:=HA.out
    clear HA
    simp only [ancepsref01_Valid.l0] at H
    by_cases c3:x3_1 < (a0.size:Int)
    ·rw [if_pos c3] at H
     have c3b0:decide (x3_1 < (a0.size:Int)) = true:=decide_eq_true c3
     clear c3
     by_cases c4:0 ≤ x3_1
     ·rw [if_pos c4] at H
      have c4b0:decide (0 ≤ x3_1) = true:=decide_eq_true c4
      clear c4
      by_cases c6:(bt a0 x3_1) < 32
      ·rw [if_pos c6] at H
       have c6b0:decide ((bt a0 x3_1) < 32) = true:=decide_eq_true c6
       clear c6
       obtain rfl:=Option.some.inj H
       have p5:0 ≤ (x3_1:Int):=of_decide_eq_true asm
       have q5:x3_1 < (a0.size:Int):=of_decide_eq_true asm
       have hx5:=bt_at a0 x3_1
       replace p5:=eq_true p5
       replace q5:=eq_true q5
       go_wp2
       go_ret
       exact ⟨rs,drw⟩
      ·rw [if_neg c6] at H
       have c6b0:decide ((bt a0 x3_1) < 32) = false:=decide_eq_false c6
       clear c6
       by_cases c8:(bt a0 x3_1) > 126
       ·rw [if_pos c8] at H
        have c8b0:decide (126 < (bt a0 x3_1)) = true:=decide_eq_true c8
        clear c8
        obtain rfl:=Option.some.inj H
        have p5:0 ≤ (x3_1:Int):=of_decide_eq_true asm
        have q5:x3_1 < (a0.size:Int):=of_decide_eq_true asm
        have hx5:=bt_at a0 x3_1
        replace p5:=eq_true p5
        replace q5:=eq_true q5
        have p7:0 ≤ (x3_1:Int):=of_decide_eq_true asm
        have q7:x3_1 < (a0.size:Int):=of_decide_eq_true asm
        have hx7:=bt_at a0 x3_1
        replace p7:=eq_true p7
        replace q7:=eq_true q7
        go_wp2
        go_ret
        exact ⟨rs,drw⟩
       ·rw [if_neg c8] at H
        have c8b0:decide (126 < (bt a0 x3_1)) = false:=decide_eq_false c8
        clear c8
        have H':=Aside0.mk H
        clear H
        have p5:0 ≤ (x3_1:Int):=of_decide_eq_true asm
        have q5:x3_1 < (a0.size:Int):=of_decide_eq_true asm
        have hx5:=bt_at a0 x3_1
        replace p5:=eq_true p5
        replace q5:=eq_true q5
        have p7:0 ≤ (x3_1:Int):=of_decide_eq_true asm
        have q7:x3_1 < (a0.size:Int):=of_decide_eq_true asm
        have hx7:=bt_at a0 x3_1
        replace p7:=eq_true p7
        replace q7:=eq_true q7
        go_wp2
        go_roundg k1
        case measure => have:=HK1.out;omega
        case rel => exact ⟨(wrap64 (x3_1 + 1)),rs,H',⟨by have:=HK1.out;omega⟩,drw⟩
     ·rw [if_neg c4] at H
      exact absurd H (by simp)
    ·rw [if_neg c3] at H
     have c3b0:decide (x3_1 < (a0.size:Int)) = false:=decide_eq_false c3
     clear c3
     obtain rfl:=Option.some.inj H
     go_wp2
     go_ret
     exact ⟨rs,drw⟩
mutual
def ancepsref50_Key.l0:Nat → ByteArray → Int → Option (Int)
 | 0,_,_ => none
 | k + 1,x0,x3 => if x3 < (x0.size:Int) then (if 0 ≤ x3 then (if (bt x0 x3) < 33 then (some 2) else (if (bt x0 x3) > 126 then (some 2) else (ancepsref50_Key.l0 k x0 (wrap64 (x3 + 1))))) else (none)) else (ancepsref50_Key.l1 k x0 0)
def ancepsref50_Key.l1:Nat → ByteArray → Int → Option (Int)
 | 0,_,_ => none
 | k + 1,x0,x4 => if x4 ≤ (x0.size:Int) then (if x4 = 0 then (if x4 = (x0.size:Int) then (some 7) else (if 0 ≤ x4 then (if x4 < (x0.size:Int) then (if (bt x0 x4) = 47 then (some 7) else (ancepsref50_Key.l1 k x0 (wrap64 (x4 + 1)))) else (none)) else (none))) else (if 0 ≤ (wrap64 (x4 - 1)) then (if (wrap64 (x4 - 1)) < (x0.size:Int) then (if (bt x0 (wrap64 (x4 - 1))) = 47 then (if x4 = (x0.size:Int) then (some 7) else (if 0 ≤ x4 then (if x4 < (x0.size:Int) then (if (bt x0 x4) = 47 then (some 7) else (ancepsref50_Key.l1 k x0 (wrap64 (x4 + 1)))) else (none)) else (none))) else (ancepsref50_Key.l1 k x0 (wrap64 (x4 + 1)))) else (none)) else (none))) else (some 0)
end
def ancepsref50_Key.f (k:Nat) (a0:ByteArray):Option (Int):=if (a0.size:Int) > 60 then (some 3) else (ancepsref50_Key.l0 k a0 0)
set_option maxHeartbeats 8000000 in
set_option maxRecDepth 100000 in
theorem ancepsref50_Key.calls (k:Nat) (a0:ByteArray) (r:Int) (w:World) (h:ancepsref50_Key.f k a0 = some r) :
  Calls Tryz.prog 28 #[.string a0] w fun e w' => e = .returned (.int .i64 r) ∧ Drawn0 w w':=by
 have H:=am h
 clear h
 unfold ancepsref50_Key.f at H
 go_enter Tryz.func28,Tryz.ntmps28
 go_wp2
 ·obtain rfl:=sj (iT H (by omega))
  go_ret
  exact ⟨rs,drw⟩
 ·replace H:=iF H (by omega)
  go_loopg [3] k (fun kq v3 w' => ∃ x:Int,v3 = .int .i64 x ∧ Aside0 (ancepsref50_Key.l0 kq a0 x = some r) ∧ Aside0 (kq ≤ k) ∧ Drawn0 w w')
  case atStart => exact ⟨0,rs,H,⟨Nat.le_refl _⟩,drw⟩
  case round =>
   clear H
   obtain ⟨x,rfl,H,HK,⟨m,rfl⟩⟩:=hrel
   cases gk with
   | zero => exact absurd H.out (by simp [ancepsref50_Key.l0])
   | succ k1 =>
    simp only [ancepsref50_Key.l0] at H
    have hx:=bt_at a0 x
    go_wp2
    ·obtain rfl:=sj (iT (iF (jn (iT H (by omega))).2 (by omega)) (by omega))
     go_ret
     exact ⟨rs,drw⟩
    ·go_roundg k1
     case measure => omega
     case rel => exact ⟨wrap64 (x + 1),by rw [show wrap64 (x + 1) = x + 1 by unfold wrap64;omega],iF (iF (jn (iT H (by omega))).2 (by omega)) (by omega),⟨by have:=HK.out;omega⟩,drw⟩
    ·obtain rfl:=sj (iT (jn (iT H (by omega))).2 (by omega))
     go_ret
     exact ⟨rs,drw⟩
    ·exact absurd (jn (iT H (by omega))).1 (by omega)
    ·replace H:=iF H (by omega)
     clear hx
     go_loopg [4] k1 (fun kq v4 w' => ∃ y:Int,v4 = .int .i64 y ∧ Aside0 (ancepsref50_Key.l1 kq a0 y = some r) ∧ Aside0 (kq ≤ k1) ∧ Drawn0 w w')
     case atStart => exact ⟨0,rs,H,⟨Nat.le_refl _⟩,drw⟩
     case round =>
      clear H
      obtain ⟨y,rfl,H,HK2,⟨m2,rfl⟩⟩:=hrel
      cases gk with
      | zero => exact absurd H.out (by simp [ancepsref50_Key.l1])
      | succ k2 =>
       simp only [ancepsref50_Key.l1] at H
       have hy:=bt_at a0 y
       by_cases e:y = 0
       ·subst e
        replace H:=iT (iT H (by omega)) rfl
        go_wp2
        ·obtain rfl:=sj (iT H (by assumption))
         go_ret
         exact ⟨rs,drw⟩
        ·obtain rfl:=sj (iT (jn (jn (iF H (by assumption))).2).2 (by simp_all))
         go_ret
         exact ⟨rs,drw⟩
        ·go_roundg k2
         case measure => omega
         case rel =>
          have q:¬ bt a0 0 = 47:=by clear H;simp_all
          exact ⟨wrap64 (0 + 1),by first | rfl | (simp;done) | (simp [wrap64];done),iF (jn (jn (iF H (by assumption))).2).2 q,⟨by have:=HK2.out;omega⟩,drw⟩
       ·have D:=fun q:y ≤ (a0.size:Int) => (jn (jn (iF (iT H q) e)).2).2
        have hz:=bt_at a0 (wrap64 (y - 1))
        go_wp2
        ·obtain rfl:=sj (iT (iT (D (by omega)) (by assumption)) (by assumption))
         go_ret
         exact ⟨rs,drw⟩
        ·obtain rfl:=sj (iT (jn (jn (iF (iT (D (by omega)) (by assumption)) (by assumption))).2).2 (by simp_all))
         go_ret
         exact ⟨rs,drw⟩
        ·go_roundg k2
         case measure => omega
         case rel => exact ⟨wrap64 (y + 1),by first | rfl | rw [show wrap64 (y + 1) = y + 1 by unfold wrap64;omega],iF (jn (jn (iF (iT (D (by omega)) (by assumption)) (by assumption))).2).2 (by simp_all),⟨by have:=HK2.out;omega⟩,drw⟩
        ·have q:=jn (iF (iT (D (by omega)) (by assumption)) (by assumption))
         exact absurd (And.intro q.1 (jn q.2).1) (by assumption)
        ·go_roundg k2
         case measure => omega
         case rel => exact ⟨wrap64 (y + 1),by first | rfl | rw [show wrap64 (y + 1) = y + 1 by unfold wrap64;omega],iF (D (by omega)) (by assumption),⟨by have:=HK2.out;omega⟩,drw⟩
        ·have q:=jn (iF (iT H (by omega)) e)
         exact absurd (And.intro q.1 (jn q.2).1) (by assumption)
        ·obtain rfl:=sj (iF H (by omega))
         go_ret
         exact ⟨rs,drw⟩
mutual
def ancepsref50_check.l0:Nat → Int → List ByteArray → List Int → Option (Int × Int)
 | 0,_,_,_ => none
 | k + 1,x4,x150000,x150001 => if x4 < (x150000.length:Int) then (if 0 ≤ x4 then ((ancepsref50_Key.f k (rdOf ByteArray.empty x150000 x4)).bind fun t151 => (if t151 = 0 then (if x4 > 0 then (if 0 ≤ (wrap64 (x4 - 1)) then (if (wrap64 (x4 - 1)) < (x150000.length:Int) then (ancepsref50_check.j1 k x4 (!(Op.bytesLess ((rdOf ByteArray.empty x150000 (wrap64 (x4 - 1))).toList) ((rdOf ByteArray.empty x150000 x4).toList))) x150000 x150001) else (none)) else (none)) else (ancepsref50_check.j1 k x4 false x150000 x150001)) else (some (x4,t151)))) else (none)) else (some ((-1),0))
def ancepsref50_check.j1:Nat → Int → Bool → List ByteArray → List Int → Option (Int × Int)
 | 0,_,_,_,_ => none
 | k + 1,x4,x49,x150000,x150001 => if x49 = true then (some (x4,18)) else (if 0 ≤ x4 then (if x4 < (x150001.length:Int) then (if (rd x150001 x4) < 1 then (some (x4,6)) else (if (rd x150001 x4) > 1000000 then (some (x4,6)) else (ancepsref50_check.l0 k (wrap64 (x4 + 1)) x150000 x150001))) else (none)) else (none))
end
def ancepsref50_check.f (k:Nat) (l0_0:List ByteArray) (l0_1:List Int):Option (Int × Int):=if (l0_0.length:Int) = (l0_1.length:Int) then (if (l0_0.length:Int) > 2000 then (some ((-1),3)) else (ancepsref50_check.l0 k 0 l0_0 l0_1)) else (some ((-1),1))
set_option maxHeartbeats 8000000 in
set_option maxRecDepth 100000 in
theorem ancepsref50_check.calls (k:Nat) (A0_0:Option Addr) (c0_0:Nat) (l0_0:List ByteArray) (A0_1:Option Addr) (c0_1:Nat) (l0_1:List Int) (r1:Int) (r2:Int) (w:World) (hr0_0:Kd.C Kd.string w A0_0 l0_0.length l0_0) (hc0_0:l0_0.length ≤ c0_0) (hr0_1:Kd.C (Kd.int .i64) w A0_1 l0_1.length l0_1) (hc0_1:l0_1.length ≤ c0_1) (h:ancepsref50_check.f k l0_0 l0_1 = some (r1,r2)) :
  Calls Tryz.prog 119 #[.agg #[.slice A0_0 l0_0.length c0_0,.slice A0_1 l0_1.length c0_1]] w fun e w' => e = .returned (.tuple #[.int .i64 r1,.int .i64 r2]) ∧ Below w.heap.size w w':=by
 have hu26:=Tryz.underlying26
 have HB:=am (Below.refl w.heap.size w)
 have H:=am h
 clear h
 unfold ancepsref50_check.f at H
 have R0:=am hr0_0
 have R1:=am hr0_1
 clear hr0_0 hr0_1
 go_enter Tryz.func119,Tryz.ntmps119
 go_wp2_with (first | ((with_reducible refine gate_dst (N:=1) rfl ?_);refine bx 1 #[.slice A0_0 l0_0.length c0_0,.slice A0_1 l0_1.length c0_1] 26 ?_;intro g1 w1 b1 hb;have B1:=am b1;replace HB:=bst hb;clear hb b1;obtain ⟨⟨z0,z1⟩,f0,f1⟩:=cf2 B1.out))
 ·obtain ⟨rfl,rfl⟩:=sj2 (iF H (bne_iff_ne.mp (by assumption)))
  go_ret2
  exact ⟨rr,bel⟩
 ·obtain ⟨rfl,rfl⟩:=sj2 (iT (iT H (bne_eq_false_iff_eq.mp (by assumption))) (by omega))
  go_ret2
  exact ⟨rr,bel⟩
 ·have q:((l0_0.length:Int) != (l0_1.length:Int)) = false:=by assumption
  replace H:=iF (iT H (bne_eq_false_iff_eq.mp q)) (by omega)
  rw [q]
  go_loopg [4] k (fun kq v4 w' => ∃ x:Int,v4 = .int .i64 x ∧ Aside0 (ancepsref50_check.l0 kq x l0_0 l0_1 = some (r1,r2)) ∧ Aside0 (kq ≤ k) ∧ Aside0 (w'.heap[g1]? = some (.cells #[.slice A0_0 l0_0.length c0_0,.slice A0_1 l0_1.length c0_1] 26 (0,0))) ∧ Aside0 (Below w.heap.size w w'))
  case atStart => exact ⟨0,rs,H,⟨Nat.le_refl _⟩,⟨skb⟩,⟨bel⟩⟩
  case round =>
   clear H z0 z1 f0 f1
   obtain ⟨x,rfl,H,HK,B1,HB⟩:=hrel
   cases gk with
   | zero => exact absurd H.out (by simp [ancepsref50_check.l0])
   | succ k1 =>
    simp only [ancepsref50_check.l0] at H
    obtain ⟨⟨z0,z1⟩,f0,f1⟩:=cf2 B1.out
    by_cases c:x < (l0_0.length:Int)
    ·obtain ⟨c0,H⟩:=jn (iT H c)
     obtain ⟨t,A,H⟩:=bE H
     obtain ⟨ad,e1,hx⟩:=Kd.at_string R0.out x c0 c
     subst e1
     replace hx:=(HB.out.cell (World.block_lt_of_cell? w _ hx)).trans hx
     by_cases c2:t = 0
     ·replace H:=iT H c2
      go_upto_region 11 with (first | (go_at_call 28;(with_reducible refine (ancepsref50_Key.calls k1 (rdOf ByteArray.empty l0_0 x) t _ A.out).mono ?_);rintro e w' ⟨rfl,⟨nd,rfl⟩⟩))
      (try simp only [Act.put,List.setIfInBounds_toArray,List.set_cons_zero,List.set_cons_succ])
      go_cut [49] (fun v49 wc => ∃ (kq:Nat) (b:Bool),v49 = .bool b ∧ Aside0 (ancepsref50_check.j1 kq x b l0_0 l0_1 = some (r1,r2)) ∧ Aside0 (kq ≤ k1) ∧ Aside0 (wc.heap[g1]? = some (.cells #[.slice (some ad) l0_0.length c0_0,.slice A0_1 l0_1.length c0_1] 26 (0,0))) ∧ Aside0 (Below w.heap.size w wc))
      case first =>
       have cq:=fun x y W => geqS (P:=Tryz.prog) 9 x y W
       have cq2:=fun x y W => leqS (P:=Tryz.prog) 9 x y W
       by_cases c3:x > 0
       ·have cb:decide (0 < x) = true:=decide_eq_true c3
        first | rw [cb] | skip
        replace H:=iT H c3
        obtain ⟨j,hj⟩:∃ j:Int,wrap64 (x - 1) = j:=⟨_,rfl⟩
        rw [hj] at H
        have hjw:IntKind.i64.wrap (x - 1) = j:=(i64_w _).trans hj
        obtain ⟨d0,H⟩:=jn H
        obtain ⟨d1,H⟩:=jn H
        obtain ⟨ad2,e2,hx2⟩:=Kd.at_string R0.out j d0 d1
        obtain rfl:ad = ad2:=by injection e2
        replace hx2:=(HB.out.cell (World.block_lt_of_cell? w _ hx2)).trans hx2
        go_wp2
        repeat (go_quiet (fail);try go_wp2)
        go_meet
        case rel => exact ⟨_,_,rfl,H,⟨Nat.le_refl _⟩,⟨skb⟩,⟨bel⟩⟩
       ·have cb:decide (0 < x) = false:=decide_eq_false c3
        first | rw [cb] | skip
        go_wp2
        repeat (go_quiet (fail);try go_wp2)
        go_meet
        case rel => exact ⟨_,false,rs,iF H (by omega),⟨Nat.le_refl _⟩,⟨skb⟩,⟨bel⟩⟩
      case rest =>
       clear H z0 z1 f0 f1 hx
       obtain ⟨kq,b,rfl,H,HJ,B1,HB⟩:=hcut
       cases kq with
       | zero => exact absurd H.out (by simp [ancepsref50_check.j1])
       | succ k2 =>
        simp only [ancepsref50_check.j1] at H
        obtain ⟨⟨z0,z1⟩,f0,f1⟩:=cf2 B1.out
        cases b
        rotate_left
        ·obtain ⟨rfl,rfl⟩:=sj2 (uT H rfl)
         go_wp2
         go_ret2
         exact ⟨rr,bel⟩
        ·obtain ⟨_,H⟩:=jn (uF H rfl)
         obtain ⟨d,H⟩:=jn H
         obtain ⟨ad2,e2,hx2⟩:=Kd.at_int R1.out x c0 d
         subst e2
         replace hx2:=(HB.out.cell (World.block_lt_of_cell? w _ hx2)).trans hx2
         go_wp2
         ·obtain ⟨rfl,rfl⟩:=sj2 (iT (iF H (by omega)) (by omega))
          go_ret2
          exact ⟨rr,bel⟩
         ·go_roundg k2
          case measure => have:=HJ.out;omega
          case rel => exact ⟨wrap64 (x + 1),by rw [show wrap64 (x + 1) = x + 1 by unfold wrap64;omega],iF (iF H (by omega)) (by omega),⟨by have:=HK.out;have:=HJ.out;omega⟩,⟨skb⟩,⟨bel⟩⟩
         ·obtain ⟨rfl,rfl⟩:=sj2 (iT H (by omega))
          go_ret2
          exact ⟨rr,bel⟩
     ·go_wp2_with (first | (go_at_call 28;(with_reducible refine (ancepsref50_Key.calls k1 (rdOf ByteArray.empty l0_0 x) t _ A.out).mono ?_);rintro e w' ⟨rfl,⟨nd,rfl⟩⟩))
      obtain ⟨rfl,rfl⟩:=sj2 (iF H c2)
      go_ret2
      exact ⟨rr,bel⟩
    ·go_wp2
     obtain ⟨rfl,rfl⟩:=sj2 (iF H (by omega))
     go_ret2
     exact ⟨rr,bel⟩
def ancepsref50_Valid.f (k:Nat) (l0_0:List ByteArray) (l0_1:List Int):Option (Int):=(ancepsref50_check.f k l0_0 l0_1).bind fun bt157 => (some bt157.2)
set_option maxHeartbeats 8000000 in
set_option maxRecDepth 100000 in
theorem ancepsref50_Valid.calls (k:Nat) (A0_0:Option Addr) (c0_0:Nat) (l0_0:List ByteArray) (A0_1:Option Addr) (c0_1:Nat) (l0_1:List Int) (r:Int) (w:World) (hr0_0:Kd.C Kd.string w A0_0 l0_0.length l0_0) (hc0_0:l0_0.length ≤ c0_0) (hr0_1:Kd.C (Kd.int .i64) w A0_1 l0_1.length l0_1) (hc0_1:l0_1.length ≤ c0_1) (h:ancepsref50_Valid.f k l0_0 l0_1 = some r) :
  Calls Tryz.prog 56 #[.agg #[.slice A0_0 l0_0.length c0_0,.slice A0_1 l0_1.length c0_1]] w fun e w' => e = .returned (.int .i64 r) ∧ Below w.heap.size w w':=by
 have hu26:=Tryz.underlying26
 have HR0_0:=Aside0.mk hr0_0
 have HC0_0:=Aside0.mk hc0_0
 clear hr0_0 hc0_0
 have HR0_1:=Aside0.mk hr0_1
 have HC0_1:=Aside0.mk hc0_1
 clear hr0_1 hc0_1
 have HB:=Aside0.mk (Below.refl w.heap.size w)
 have H:((ancepsref50_check.f k l0_0 l0_1).bind fun bt157 => (some bt157.2)) = some r:=h
 clear h
 replace H:=Option.bind_eq_some_iff.mp H
 obtain ⟨⟨t157,t158⟩,A20,H⟩:=H
 replace H:(some t158) = some r:=H
 have A2:=Aside0.mk A20
 clear A20
 obtain rfl:=Option.some.inj H
 go_enter Tryz.func56,Tryz.ntmps56
 go_wp2_with (first | ((with_reducible refine gate_dst (N:=1) rfl ?_);refine box_event ?hg (N:=1) ?hd (cs:=#[.slice A0_0 l0_0.length c0_0,.slice A0_1 l0_1.length c0_1]) (t:=26) ?hr ?_;(case hd => rfl);(case hg => rfl);(case hr => first | (go_simp;done) | (go_simp;rfl));intro gb156 hg w3 hbox hb;have n0_:=Aside0.mk (below_step bel hb);have n1_:=Aside0.mk (hbox);have n2_:=Aside0.mk ((by rw [hg];exact (below_size bel):w.heap.size ≤ gb156));have n3_:=Aside0.mk ((by rw [hg];exact (below_size bel):w.heap.size ≤ gb156));clear HB;have HB:=n0_;have BK156:=n1_;have GW156:=n2_;have GE156:=n3_;clear n0_ n1_ n2_ n3_;clear hb hbox hg;have hcz4_0:w3.cell? ⟨gb156,0,none⟩ = some (.slice A0_0 l0_0.length c0_0):=(blk_cell BK156.out 0).trans rfl;have hcz4_1:w3.cell? ⟨gb156,1,none⟩ = some (.slice A0_1 l0_1.length c0_1):=(blk_cell BK156.out 1).trans rfl;have hfz4_0:=blk_frozen BK156.out 0;have hfz4_1:=blk_frozen BK156.out 1) | ((with_reducible refine gate_callee (f:=119) rfl ?_);refine goesL_ (some 7) rfl rfl Tryz.func119 (by kernel_rfl) rfl #[.agg #[.slice A0_0 l0_0.length c0_0,.slice A0_1 l0_1.length c0_1]] rfl arg ?_;(with_reducible refine (ancepsref50_check.calls k _ _ l0_0 _ _ l0_1 t157 t158 _ rdc aso rdc aso A2.out).mono ?_);rintro e w5 ⟨rfl,hb⟩;refine ⟨_,rfl,?_⟩;have n0_:=Aside0.mk (blk_below (g:=gb156) (o:=.cells #[.slice A0_0 l0_0.length c0_0,.slice A0_1 l0_1.length c0_1] 26 (0,0)) skb hb);have n1_:=Aside0.mk (below_step bel hb);clear BK156;clear HB;have BK156:=n0_;have HB:=n1_;clear n0_ n1_;(try clear hb);(try clear hb2);(try clear hk);(try clear hi)))
 go_ret
 exact ⟨rr,bel⟩
def ancepsref50_Get.l0:Nat → ByteArray → Int → List ByteArray → List Int → Option (Int)
 | 0,_,_,_,_ => none
 | k + 1,x1,x5,x209000,x209001 => if x5 < (x209000.length:Int) then (if 0 ≤ x5 then (if (rdOf ByteArray.empty x209000 x5).toList = x1.toList then (if x5 < (x209001.length:Int) then (some (rd x209001 x5)) else (none)) else (ancepsref50_Get.l0 k x1 (wrap64 (x5 + 1)) x209000 x209001)) else (none)) else (some 0)
def ancepsref50_Get.f (k:Nat) (l0_0:List ByteArray) (l0_1:List Int) (a1:ByteArray):Option (Int):=ancepsref50_Get.l0 k a1 0 l0_0 l0_1
set_option maxHeartbeats 8000000 in
set_option maxRecDepth 100000 in
theorem ancepsref50_Get.calls (k:Nat) (A0_0:Option Addr) (c0_0:Nat) (l0_0:List ByteArray) (A0_1:Option Addr) (c0_1:Nat) (l0_1:List Int) (a1:ByteArray) (r:Int) (w:World) (hr0_0:Kd.C Kd.string w A0_0 l0_0.length l0_0) (hc0_0:l0_0.length ≤ c0_0) (hr0_1:Kd.C (Kd.int .i64) w A0_1 l0_1.length l0_1) (hc0_1:l0_1.length ≤ c0_1) (h:ancepsref50_Get.f k l0_0 l0_1 a1 = some r) :
  Calls Tryz.prog 29 #[.agg #[.slice A0_0 l0_0.length c0_0,.slice A0_1 l0_1.length c0_1],.string a1] w fun e w' => e = .returned (.int .i64 r) ∧ Below w.heap.size w w':=by
 have hu26:=Tryz.underlying26
 have HR0_0:=Aside0.mk hr0_0
 have HC0_0:=Aside0.mk hc0_0
 clear hr0_0 hc0_0
 have HR0_1:=Aside0.mk hr0_1
 have HC0_1:=Aside0.mk hc0_1
 clear hr0_1 hc0_1
 have HB:=Aside0.mk (Below.refl w.heap.size w)
 have H:(ancepsref50_Get.l0 k a1 0 l0_0 l0_1) = some r:=h
 clear h
 have H':=Aside0.mk H
 clear H
 go_enter Tryz.func29,Tryz.ntmps29
 go_wp2_with (first | ((with_reducible refine gate_dst (N:=2) rfl ?_);refine box_event ?hg (N:=2) ?hd (cs:=#[.slice A0_0 l0_0.length c0_0,.slice A0_1 l0_1.length c0_1]) (t:=26) ?hr ?_;(case hd => rfl);(case hg => rfl);(case hr => first | (go_simp;done) | (go_simp;rfl));intro gb208 hg w3 hbox hb;have n0_:=Aside0.mk (below_step bel hb);have n1_:=Aside0.mk (hbox);have n2_:=Aside0.mk ((by rw [hg];exact (below_size bel):w.heap.size ≤ gb208));have n3_:=Aside0.mk ((by rw [hg];exact (below_size bel):w.heap.size ≤ gb208));clear HB;have HB:=n0_;have BK208:=n1_;have GW208:=n2_;have GE208:=n3_;clear n0_ n1_ n2_ n3_;clear hb hbox hg))
 go_loopg [5] k (fun kq v5 w' => ∃ (x5_1:Int),v5 = .int .i64 x5_1 ∧ Aside0 (ancepsref50_Get.l0 kq a1 x5_1 l0_0 l0_1 = some r) ∧ Aside0 (kq ≤ k) ∧ Aside0 (w'.heap[gb208]? = some (.cells #[(.slice A0_0 l0_0.length c0_0),(.slice A0_1 l0_1.length c0_1)] 26 (0,0))) ∧ Aside0 (Below w.heap.size w w'))
 case atStart => exact ⟨(0),rs,H',⟨Nat.le_refl _⟩,⟨skb⟩,⟨bel⟩⟩
 case round =>
  clear H'
  try clear p2
  obtain ⟨x5_1,rfl,HA,HK1,BK208,HB⟩:=hrel
  cases gk with
  | zero => exact absurd HA.out (by simp [ancepsref50_Get.l0])
  | succ k1 =>
   have H:=HA.out
   clear HA
   simp only [ancepsref50_Get.l0] at H
   by_cases c4:x5_1 < (l0_0.length:Int)
   ·rw [if_pos c4] at H
    have c4b0:decide (x5_1 < (l0_0.length:Int)) = true:=decide_eq_true c4
    clear c4
    by_cases c5:0 ≤ x5_1
    ·rw [if_pos c5] at H
     have c5b0:decide (0 ≤ x5_1) = true:=decide_eq_true c5
     clear c5
     by_cases c6:(rdOf ByteArray.empty l0_0 x5_1).toList = a1.toList
     ·rw [if_pos c6] at H
      have c6b0:((rdOf ByteArray.empty l0_0 x5_1).toList == a1.toList) = true:=beq_iff_eq.mpr c6
      have c6b1:((rdOf ByteArray.empty l0_0 x5_1).toList != a1.toList) = false:=bne_eq_false_iff_eq.mpr c6
      clear c6
      by_cases c7:x5_1 < (l0_1.length:Int)
      ·rw [if_pos c7] at H
       have c7b0:decide (x5_1 < (l0_1.length:Int)) = true:=decide_eq_true c7
       clear c7
       obtain rfl:=Option.some.inj H
       have hcz8_0:wr.cell? ⟨gb208,0,none⟩ = some (.slice A0_0 l0_0.length c0_0):=(blk_cell BK208.out 0).trans rfl
       have hcz8_1:wr.cell? ⟨gb208,1,none⟩ = some (.slice A0_1 l0_1.length c0_1):=(blk_cell BK208.out 1).trans rfl
       have hfz8_0:=blk_frozen BK208.out 0
       have hfz8_1:=blk_frozen BK208.out 1
       have p209:0 ≤ (x5_1:Int):=of_decide_eq_true asm
       have q209:x5_1 < (l0_0.length:Int):=of_decide_eq_true asm
       obtain ⟨ad209,e209,hx209_0⟩:=Kd.at_string HR0_0.out x5_1 p209 q209
       cases e209
       replace hx209_0:=(HB.out.cell (World.block_lt_of_cell? w _ hx209_0)).trans hx209_0
       replace p209:=eq_true p209
       replace q209:=eq_true q209
       have p210:0 ≤ (x5_1:Int):=of_decide_eq_true asm
       have q210:x5_1 < (l0_1.length:Int):=of_decide_eq_true asm
       obtain ⟨ad210,e210,hx210_0⟩:=Kd.at_int HR0_1.out x5_1 p210 q210
       cases e210
       replace hx210_0:=(HB.out.cell (World.block_lt_of_cell? w _ hx210_0)).trans hx210_0
       replace p210:=eq_true p210
       replace q210:=eq_true q210
       go_wp2
       go_ret
       exact ⟨rr,bel⟩
      ·rw [if_neg c7] at H
       exact absurd H (by simp)
     ·rw [if_neg c6] at H
      have c6b0:((rdOf ByteArray.empty l0_0 x5_1).toList == a1.toList) = false:=beq_eq_false_iff_ne.mpr c6
      have c6b1:((rdOf ByteArray.empty l0_0 x5_1).toList != a1.toList) = true:=bne_iff_ne.mpr c6
      have H':=Aside0.mk H
      clear H
      have hcz9_0:wr.cell? ⟨gb208,0,none⟩ = some (.slice A0_0 l0_0.length c0_0):=(blk_cell BK208.out 0).trans rfl
      have hcz9_1:wr.cell? ⟨gb208,1,none⟩ = some (.slice A0_1 l0_1.length c0_1):=(blk_cell BK208.out 1).trans rfl
      have hfz9_0:=blk_frozen BK208.out 0
      have hfz9_1:=blk_frozen BK208.out 1
      have p209:0 ≤ (x5_1:Int):=of_decide_eq_true asm
      have q209:x5_1 < (l0_0.length:Int):=of_decide_eq_true asm
      obtain ⟨ad209,e209,hx209_0⟩:=Kd.at_string HR0_0.out x5_1 p209 q209
      cases e209
      replace hx209_0:=(HB.out.cell (World.block_lt_of_cell? w _ hx209_0)).trans hx209_0
      replace p209:=eq_true p209
      replace q209:=eq_true q209
      go_wp2
      go_roundg k1
      case measure => have:=HK1.out;omega
      case rel => exact ⟨(wrap64 (x5_1 + 1)),rs,H',⟨by have:=HK1.out;omega⟩,⟨skb⟩,⟨bel⟩⟩
    ·rw [if_neg c5] at H
     exact absurd H (by simp)
   ·rw [if_neg c4] at H
    have c4b0:decide (x5_1 < (l0_0.length:Int)) = false:=decide_eq_false c4
    clear c4
    obtain rfl:=Option.some.inj H
    have hcz10_0:wr.cell? ⟨gb208,0,none⟩ = some (.slice A0_0 l0_0.length c0_0):=(blk_cell BK208.out 0).trans rfl
    have hcz10_1:wr.cell? ⟨gb208,1,none⟩ = some (.slice A0_1 l0_1.length c0_1):=(blk_cell BK208.out 1).trans rfl
    have hfz10_0:=blk_frozen BK208.out 0
    have hfz10_1:=blk_frozen BK208.out 1
    go_wp2
    go_ret
    exact ⟨rr,bel⟩
end Go.Proofs.YtnbcnoabbdegpaaGreatDoor.V
