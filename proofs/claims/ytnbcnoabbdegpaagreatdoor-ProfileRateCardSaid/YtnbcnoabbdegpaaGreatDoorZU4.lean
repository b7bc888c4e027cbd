/- A part of the proof of the tied card of ProfileRate (chapter 53): the law returns true whatever the input. -/
import Derived.Test.YtnbcnoabbdegpaaGreatDoorZU1
import Derived.Handy
set_option linter.unusedVariables false
set_option linter.unusedSimpArgs false
namespace Go.Proofs.YtnbcnoabbdegpaaGreatDoor.V
open Go.RowKit Go.Proofs.YtnbcnoabbdegpaaGreatDoorW.PrintWords Go.Proofs.YtnbcnoabbdegpaaGreatDoorW.PrintLast Go.Proofs.YtnbcnoabbdegpaaGreatDoorW.PrintMore
set_option linter.unusedVariables false
set_option linter.unusedSimpArgs false
mutual
def ancepsref50_Same.j0:Nat → Bool → List ByteArray → List Int → List ByteArray → List Int → Option (Bool)
 | 0,_,_,_,_,_ => none
 | k + 1,x22,x254000,x254001,x255000,x255001 => if x22 = true then (some false) else (ancepsref50_Same.l0 k 0 x254000 x254001 x255000 x255001)
def ancepsref50_Same.l0:Nat → Int → List ByteArray → List Int → List ByteArray → List Int → Option (Bool)
 | 0,_,_,_,_,_ => none
 | k + 1,x5,x254000,x254001,x255000,x255001 => if x5 < (x254000.length:Int) then (if 0 ≤ x5 then (if x5 < (x255000.length:Int) then (if (rdOf ByteArray.empty x254000 x5).toList = (rdOf ByteArray.empty x255000 x5).toList then (ancepsref50_Same.l0 k (wrap64 (x5 + 1)) x254000 x254001 x255000 x255001) else (some false)) else (none)) else (none)) else (ancepsref50_Same.l1 k 0 x254000 x254001 x255000 x255001)
def ancepsref50_Same.l1:Nat → Int → List ByteArray → List Int → List ByteArray → List Int → Option (Bool)
 | 0,_,_,_,_,_ => none
 | k + 1,x6,x254000,x254001,x255000,x255001 => if x6 < (x254001.length:Int) then (if 0 ≤ x6 then (if x6 < (x255001.length:Int) then (if (rd x254001 x6) = (rd x255001 x6) then (ancepsref50_Same.l1 k (wrap64 (x6 + 1)) x254000 x254001 x255000 x255001) else (some false)) else (none)) else (none)) else (some true)
end
def ancepsref50_Same.f (k:Nat) (l0_0:List ByteArray) (l0_1:List Int) (l1_0:List ByteArray) (l1_1:List Int):Option (Bool):=if (l0_0.length:Int) = (l1_0.length:Int) then (ancepsref50_Same.j0 k ((l0_1.length:Int) != (l1_1.length:Int)) l0_0 l0_1 l1_0 l1_1) else (ancepsref50_Same.j0 k true l0_0 l0_1 l1_0 l1_1)
set_option maxHeartbeats 8000000 in
set_option maxRecDepth 100000 in
theorem ancepsref50_Same.calls (k:Nat) (A0_0:Option Addr) (c0_0:Nat) (l0_0:List ByteArray) (A0_1:Option Addr) (c0_1:Nat) (l0_1:List Int) (A1_0:Option Addr) (c1_0:Nat) (l1_0:List ByteArray) (A1_1:Option Addr) (c1_1:Nat) (l1_1:List Int) (r:Bool) (w:World) (hr0_0:Kd.C Kd.string w A0_0 l0_0.length l0_0) (hc0_0:l0_0.length ≤ c0_0) (hr0_1:Kd.C (Kd.int .i64) w A0_1 l0_1.length l0_1) (hc0_1:l0_1.length ≤ c0_1) (hr1_0:Kd.C Kd.string w A1_0 l1_0.length l1_0) (hc1_0:l1_0.length ≤ c1_0) (hr1_1:Kd.C (Kd.int .i64) w A1_1 l1_1.length l1_1) (hc1_1:l1_1.length ≤ c1_1) (h:ancepsref50_Same.f k l0_0 l0_1 l1_0 l1_1 = some r) :
  Calls Tryz.prog 33 #[.agg #[.slice A0_0 l0_0.length c0_0,.slice A0_1 l0_1.length c0_1],.agg #[.slice A1_0 l1_0.length c1_0,.slice A1_1 l1_1.length c1_1]] w fun e w' => e = .returned (.bool r) ∧ Below w.heap.size w w':=by
 have hu26:=Tryz.underlying26
 have HB:=am (Below.refl w.heap.size w)
 have H:=am h
 clear h
 unfold ancepsref50_Same.f at H
 have R0:=am hr0_0
 have R1:=am hr0_1
 have R2:=am hr1_0
 have R3:=am hr1_1
 clear hr0_0 hr0_1 hr1_0 hr1_1 hc0_0 hc0_1 hc1_0 hc1_1
 go_enter Tryz.func33,Tryz.ntmps33
 go_upto_region 1 with (first | ((with_reducible refine gate_dst (N:=2) rfl ?_);(try (refine gate_guard (by rfl) ?_;dsimp only));refine bx 2 #[.slice A0_0 l0_0.length c0_0,.slice A0_1 l0_1.length c0_1] 26 ?_;intro g1 w2 b hb;have B1:=am b;replace HB:=bst hb;clear hb b) | ((with_reducible refine gate_dst (N:=3) rfl ?_);(try (refine gate_guard (by rfl) ?_;dsimp only));refine bx 3 #[.slice A1_0 l1_0.length c1_0,.slice A1_1 l1_1.length c1_1] 26 ?_;intro g2 w3 b hb;replace B1:=bbl g1 hb;have B2:=am b;replace HB:=bst hb;clear hb b;obtain ⟨⟨z0,z1⟩,f0,f1⟩:=cf2 B1.out;obtain ⟨⟨z2,z3⟩,f2,f3⟩:=cf2 B2.out))
 go_cut [22] (fun v22 wc => ∃ (kq:Nat) (b:Bool),v22 = .bool b ∧ Aside0 (ancepsref50_Same.j0 kq b l0_0 l0_1 l1_0 l1_1 = some r) ∧ Aside0 (kq ≤ k) ∧ Aside0 (wc.heap[g1]? = some (.cells #[.slice A0_0 l0_0.length c0_0,.slice A0_1 l0_1.length c0_1] 26 (0,0))) ∧ Aside0 (wc.heap[g2]? = some (.cells #[.slice A1_0 l1_0.length c1_0,.slice A1_1 l1_1.length c1_1] 26 (0,0))) ∧ Aside0 (Below w.heap.size w wc))
 case first =>
  go_wp2
  ·go_meet
   case rel => exact ⟨_,_,rfl,iT H (by assumption),⟨Nat.le_refl _⟩,⟨skb⟩,⟨skb⟩,⟨bel⟩⟩
  ·go_meet
   case rel => exact ⟨_,true,rs,iF H (by assumption),⟨Nat.le_refl _⟩,⟨skb⟩,⟨skb⟩,⟨bel⟩⟩
 case rest =>
  clear H z0 z1 z2 z3 f0 f1 f2 f3
  obtain ⟨kq,b,rfl,H,HJ,B1,B2,HB⟩:=hcut
  obtain ⟨⟨z0,z1⟩,f0,f1⟩:=cf2 B1.out
  obtain ⟨⟨z2,z3⟩,f2,f3⟩:=cf2 B2.out
  cases kq with
  | zero => exact absurd H.out (by simp [ancepsref50_Same.j0])
  | succ kj =>
   simp only [ancepsref50_Same.j0] at H
   cases b
   rotate_left
   ·obtain rfl:=sj (uT H rfl)
    go_wp2
    go_ret
    exact ⟨rr,bel⟩
   ·replace H:=uF H rfl
    go_wp2
    go_loopg [5] kj (fun kq v5 w' => ∃ x:Int,v5 = .int .i64 x ∧ Aside0 (ancepsref50_Same.l0 kq x l0_0 l0_1 l1_0 l1_1 = some r) ∧ Aside0 (kq ≤ kj) ∧ Aside0 (w'.heap[g1]? = some (.cells #[.slice A0_0 l0_0.length c0_0,.slice A0_1 l0_1.length c0_1] 26 (0,0))) ∧ Aside0 (w'.heap[g2]? = some (.cells #[.slice A1_0 l1_0.length c1_0,.slice A1_1 l1_1.length c1_1] 26 (0,0))) ∧ Aside0 (Below w.heap.size w w'))
    case atStart => exact ⟨0,rs,H,⟨Nat.le_refl _⟩,⟨skb⟩,⟨skb⟩,⟨bel⟩⟩
    case round =>
     clear H z0 z1 z2 z3 f0 f1 f2 f3
     obtain ⟨x,rfl,H,HK,B1,B2,HB⟩:=hrel
     obtain ⟨⟨z0,z1⟩,f0,f1⟩:=cf2 B1.out
     obtain ⟨⟨z2,z3⟩,f2,f3⟩:=cf2 B2.out
     cases gk with
     | zero => exact absurd H.out (by simp [ancepsref50_Same.l0])
     | succ k1 =>
      simp only [ancepsref50_Same.l0] at H
      by_cases c:x < (l0_0.length:Int)
      ·obtain ⟨c0,H⟩:=jn (iT H c)
       obtain ⟨c1,H⟩:=jn H
       obtain ⟨ad,e1,hx⟩:=Kd.at_string R0.out x c0 c
       cases e1
       replace hx:=(HB.out.cell (World.block_lt_of_cell? w _ hx)).trans hx
       obtain ⟨ad2,e2,hx2⟩:=Kd.at_string R2.out x c0 c1
       cases e2
       replace hx2:=(HB.out.cell (World.block_lt_of_cell? w _ hx2)).trans hx2
       go_wp2
       repeat (go_quiet (fail);try go_wp2)
       ·have q:(!((rdOf ByteArray.empty l0_0 x).toList == (rdOf ByteArray.empty l1_0 x).toList)) = true:=by assumption
        obtain rfl:=sj (iF H (by simpa using q))
        go_ret
        exact ⟨rr,bel⟩
       ·have q:(!((rdOf ByteArray.empty l0_0 x).toList == (rdOf ByteArray.empty l1_0 x).toList)) = false:=by assumption
        go_roundg k1
        case measure => omega
        case rel => exact ⟨_,rs,iT H (by simpa using q),⟨by have:=HK.out;omega⟩,⟨skb⟩,⟨skb⟩,⟨bel⟩⟩
      ·replace H:=iF H c
       go_wp2
       go_loopg [6] k1 (fun kq v6 w' => ∃ x:Int,v6 = .int .i64 x ∧ Aside0 (ancepsref50_Same.l1 kq x l0_0 l0_1 l1_0 l1_1 = some r) ∧ Aside0 (kq ≤ k1) ∧ Aside0 (w'.heap[g1]? = some (.cells #[.slice A0_0 l0_0.length c0_0,.slice A0_1 l0_1.length c0_1] 26 (0,0))) ∧ Aside0 (w'.heap[g2]? = some (.cells #[.slice A1_0 l1_0.length c1_0,.slice A1_1 l1_1.length c1_1] 26 (0,0))) ∧ Aside0 (Below w.heap.size w w'))
       case atStart => exact ⟨0,rs,H,⟨Nat.le_refl _⟩,⟨skb⟩,⟨skb⟩,⟨bel⟩⟩
       case round =>
        clear H z0 z1 z2 z3 f0 f1 f2 f3
        obtain ⟨y,rfl,H,HK2,B1,B2,HB⟩:=hrel
        obtain ⟨⟨z0,z1⟩,f0,f1⟩:=cf2 B1.out
        obtain ⟨⟨z2,z3⟩,f2,f3⟩:=cf2 B2.out
        cases gk with
        | zero => exact absurd H.out (by simp [ancepsref50_Same.l1])
        | succ k2 =>
         simp only [ancepsref50_Same.l1] at H
         by_cases c2:y < (l0_1.length:Int)
         ·obtain ⟨c0,H⟩:=jn (iT H c2)
          obtain ⟨c1,H⟩:=jn H
          obtain ⟨ad,e1,hx⟩:=Kd.at_int R1.out y c0 c2
          cases e1
          replace hx:=(HB.out.cell (World.block_lt_of_cell? w _ hx)).trans hx
          obtain ⟨ad2,e2,hx2⟩:=Kd.at_int R3.out y c0 c1
          cases e2
          replace hx2:=(HB.out.cell (World.block_lt_of_cell? w _ hx2)).trans hx2
          go_wp2
          repeat (go_quiet (fail);try go_wp2)
          ·obtain rfl:=sj (bT H (by assumption))
           go_ret
           exact ⟨rr,bel⟩
          ·go_roundg k2
           case measure => omega
           case rel => exact ⟨_,rs,bF H (by assumption),⟨by have:=HK2.out;omega⟩,⟨skb⟩,⟨skb⟩,⟨bel⟩⟩
         ·obtain rfl:=sj (iF H c2)
          go_wp2
          go_ret
          exact ⟨rr,bel⟩
attribute [local go_sem high] eqA72
mutual
def ancepsref53_Same.j0:Nat → Bool → ByteArray → List (S72) → List ByteArray → List Int → ByteArray → List (S72) → List ByteArray → List Int → Option (Bool)
 | 0,_,_,_,_,_,_,_,_,_ => none
 | k + 1,x27,x260000,x260001,x260002,x260003,x261000,x261001,x261002,x261003 => if x27 = true then (some false) else (ancepsref53_Same.l0 k 0 x260000 x260001 x260002 x260003 x261000 x261001 x261002 x261003)
def ancepsref53_Same.l0:Nat → Int → ByteArray → List (S72) → List ByteArray → List Int → ByteArray → List (S72) → List ByteArray → List Int → Option (Bool)
 | 0,_,_,_,_,_,_,_,_,_ => none
 | k + 1,x5,x260000,x260001,x260002,x260003,x261000,x261001,x261002,x261003 => if x5 < (x260001.length:Int) then (if 0 ≤ x5 then (if x5 < (x261001.length:Int) then (if (!((((rd_T72 x260001 x5).f0).toList) == (((rd_T72 x261001 x5).f0).toList)) || (!((((rd_T72 x260001 x5).f1).toList) == (((rd_T72 x261001 x5).f1).toList)))) = true then (some false) else (ancepsref53_Same.l0 k (wrap64 (x5 + 1)) x260000 x260001 x260002 x260003 x261000 x261001 x261002 x261003)) else (none)) else (none)) else (some true)
end
def ancepsref53_Same.f (k:Nat) (a0_0:ByteArray) (l0_1:List (S72)) (l0_2:List ByteArray) (l0_3:List Int) (a1_0:ByteArray) (l1_1:List (S72)) (l1_2:List ByteArray) (l1_3:List Int):Option (Bool):=if a0_0.toList = a1_0.toList then (if (l0_1.length:Int) = (l1_1.length:Int) then ((ancepsref50_Same.f k l0_2 l0_3 l1_2 l1_3).bind fun t261 => (ancepsref53_Same.j0 k (!t261) a0_0 l0_1 l0_2 l0_3 a1_0 l1_1 l1_2 l1_3)) else (ancepsref53_Same.j0 k true a0_0 l0_1 l0_2 l0_3 a1_0 l1_1 l1_2 l1_3)) else (ancepsref53_Same.j0 k true a0_0 l0_1 l0_2 l0_3 a1_0 l1_1 l1_2 l1_3)
set_option maxHeartbeats 8000000 in
set_option maxRecDepth 100000 in
theorem ancepsref53_Same.calls (k:Nat) (a0_0:ByteArray) (A0_1:Option Addr) (c0_1:Nat) (l0_1:List (S72)) (A0_2:Option Addr) (c0_2:Nat) (l0_2:List ByteArray) (A0_3:Option Addr) (c0_3:Nat) (l0_3:List Int) (a1_0:ByteArray) (A1_1:Option Addr) (c1_1:Nat) (l1_1:List (S72)) (A1_2:Option Addr) (c1_2:Nat) (l1_2:List ByteArray) (A1_3:Option Addr) (c1_3:Nat) (l1_3:List Int) (r:Bool) (w:World) (hr0_1:Kd.C k72 w A0_1 l0_1.length l0_1) (hc0_1:l0_1.length ≤ c0_1) (hr0_2:Kd.C Kd.string w A0_2 l0_2.length l0_2) (hc0_2:l0_2.length ≤ c0_2) (hr0_3:Kd.C (Kd.int .i64) w A0_3 l0_3.length l0_3) (hc0_3:l0_3.length ≤ c0_3) (hr1_1:Kd.C k72 w A1_1 l1_1.length l1_1) (hc1_1:l1_1.length ≤ c1_1) (hr1_2:Kd.C Kd.string w A1_2 l1_2.length l1_2) (hc1_2:l1_2.length ≤ c1_2) (hr1_3:Kd.C (Kd.int .i64) w A1_3 l1_3.length l1_3) (hc1_3:l1_3.length ≤ c1_3) (h:ancepsref53_Same.f k a0_0 l0_1 l0_2 l0_3 a1_0 l1_1 l1_2 l1_3 = some r) :
  Calls Tryz.prog 12 #[.agg #[.string a0_0,.slice A0_1 l0_1.length c0_1,.slice A0_2 l0_2.length c0_2,.slice A0_3 l0_3.length c0_3],.agg #[.string a1_0,.slice A1_1 l1_1.length c1_1,.slice A1_2 l1_2.length c1_2,.slice A1_3 l1_3.length c1_3]] w fun e w' => e = .returned (.bool r) ∧ Below w.heap.size w w':=by
 have hu28:=Tryz.underlying28
 have hu72:=Tryz.underlying72
 have HB:=am (Below.refl w.heap.size w)
 have H:=am h
 clear h
 unfold ancepsref53_Same.f at H
 have R1:=am hr0_1
 have R2:=am hr0_2
 have R3:=am hr0_3
 have Q1:=am hr1_1
 have Q2:=am hr1_2
 have Q3:=am hr1_3
 have C2:=am hc0_2
 have C3:=am hc0_3
 have D2:=am hc1_2
 have D3:=am hc1_3
 clear hr0_1 hr0_2 hr0_3 hr1_1 hr1_2 hr1_3 hc0_1 hc0_2 hc0_3 hc1_1 hc1_2 hc1_3
 go_enter Tryz.func12,Tryz.ntmps12
 go_upto_region 1 with (first | ((with_reducible refine gate_dst (N:=2) rfl ?_);(try (refine gate_guard (by rfl) ?_;dsimp only));refine bx 2 #[.string a0_0,.slice A0_1 l0_1.length c0_1,.slice A0_2 l0_2.length c0_2,.slice A0_3 l0_3.length c0_3] 28 ?_;intro g1 w2 b hb;have B1:=am b;replace HB:=bst hb;clear hb b) | ((with_reducible refine gate_dst (N:=3) rfl ?_);(try (refine gate_guard (by rfl) ?_;dsimp only));refine bx 3 #[.string a1_0,.slice A1_1 l1_1.length c1_1,.slice A1_2 l1_2.length c1_2,.slice A1_3 l1_3.length c1_3] 28 ?_;intro g2 w3 b hb;replace B1:=bbl g1 hb;have B2:=am b;replace HB:=bst hb;clear hb b;obtain ⟨⟨z0,z1,z2,z3⟩,f0,f1,f2,f3⟩:=cf4 B1.out;obtain ⟨⟨y0,y1,y2,y3⟩,e0,e1,e2,e3⟩:=cf4 B2.out))
 go_cut [27] (fun v27 wc => ∃ (kq:Nat) (b:Bool),v27 = .bool b ∧ Aside0 (ancepsref53_Same.j0 kq b a0_0 l0_1 l0_2 l0_3 a1_0 l1_1 l1_2 l1_3 = some r) ∧ Aside0 (kq ≤ k) ∧ Aside0 (wc.heap[g1]? = some (.cells #[.string a0_0,.slice A0_1 l0_1.length c0_1,.slice A0_2 l0_2.length c0_2,.slice A0_3 l0_3.length c0_3] 28 (0,0))) ∧ Aside0 (wc.heap[g2]? = some (.cells #[.string a1_0,.slice A1_1 l1_1.length c1_1,.slice A1_2 l1_2.length c1_2,.slice A1_3 l1_3.length c1_3] 28 (0,0))) ∧ Aside0 (Below w.heap.size w wc))
 case first =>
  go_wp2_with (first | (go_at_call 33;obtain ⟨t,A,H⟩:=bE (iT (iT H (by assumption)) (by assumption));refine (ancepsref50_Same.calls k _ _ l0_2 _ _ l0_3 _ _ l1_2 _ _ l1_3 t _ rdc aso rdc aso rdc aso rdc aso A.out).mono ?_;rintro e w4 ⟨rfl,hb⟩;replace B1:=bbl g1 hb;replace B2:=bbl g2 hb;replace HB:=bst hb;clear hb z0 z1 z2 z3 f0 f1 f2 f3 y0 y1 y2 y3 e0 e1 e2 e3))
  ·go_meet
   case rel => exact ⟨_,!t,rs,H,⟨Nat.le_refl _⟩,⟨skb⟩,⟨skb⟩,⟨bel⟩⟩
  ·go_meet
   case rel => exact ⟨_,true,rs,iF (iT H (by assumption)) (by assumption),⟨Nat.le_refl _⟩,⟨skb⟩,⟨skb⟩,⟨bel⟩⟩
  ·go_meet
   case rel => exact ⟨_,true,rs,iF H (by assumption),⟨Nat.le_refl _⟩,⟨skb⟩,⟨skb⟩,⟨bel⟩⟩
 case rest =>
  clear H z0 z1 z2 z3 f0 f1 f2 f3 y0 y1 y2 y3 e0 e1 e2 e3
  obtain ⟨kq,b,rfl,H,HJ,B1,B2,HB⟩:=hcut
  obtain ⟨⟨z0,z1,z2,z3⟩,f0,f1,f2,f3⟩:=cf4 B1.out
  obtain ⟨⟨y0,y1,y2,y3⟩,e0,e1,e2,e3⟩:=cf4 B2.out
  cases kq with
  | zero => exact absurd H.out (by simp [ancepsref53_Same.j0])
  | succ kj =>
   simp only [ancepsref53_Same.j0] at H
   cases b
   rotate_left
   ·obtain rfl:=sj (uT H rfl)
    go_wp2
    go_ret
    exact ⟨rr,bel⟩
   ·replace H:=uF H rfl
    go_wp2
    go_loopg [5] kj (fun kq v5 w' => ∃ x:Int,v5 = .int .i64 x ∧ Aside0 (ancepsref53_Same.l0 kq x a0_0 l0_1 l0_2 l0_3 a1_0 l1_1 l1_2 l1_3 = some r) ∧ Aside0 (kq ≤ kj) ∧ Aside0 (w'.heap[g1]? = some (.cells #[.string a0_0,.slice A0_1 l0_1.length c0_1,.slice A0_2 l0_2.length c0_2,.slice A0_3 l0_3.length c0_3] 28 (0,0))) ∧ Aside0 (w'.heap[g2]? = some (.cells #[.string a1_0,.slice A1_1 l1_1.length c1_1,.slice A1_2 l1_2.length c1_2,.slice A1_3 l1_3.length c1_3] 28 (0,0))) ∧ Aside0 (Below w.heap.size w w'))
    case atStart => exact ⟨0,rs,H,⟨Nat.le_refl _⟩,⟨skb⟩,⟨skb⟩,⟨bel⟩⟩
    case round =>
     clear H z0 z1 z2 z3 f0 f1 f2 f3 y0 y1 y2 y3 e0 e1 e2 e3
     obtain ⟨x,rfl,H,HK,B1,B2,HB⟩:=hrel
     obtain ⟨⟨z0,z1,z2,z3⟩,f0,f1,f2,f3⟩:=cf4 B1.out
     obtain ⟨⟨y0,y1,y2,y3⟩,e0,e1,e2,e3⟩:=cf4 B2.out
     cases gk with
     | zero => exact absurd H.out (by simp [ancepsref53_Same.l0])
     | succ k1 =>
      simp only [ancepsref53_Same.l0] at H
      by_cases c:x < (l0_1.length:Int)
      ·obtain ⟨c0,H⟩:=jn (iT H c)
       obtain ⟨c1,H⟩:=jn H
       obtain ⟨ad,q1,hx,hx1⟩:=at_T72 R1.out x c0 c
       cases q1
       replace hx:=(HB.out.cell (World.block_lt_of_cell? w _ hx)).trans hx
       replace hx1:=(HB.out.cell (World.block_lt_of_cell? w _ hx1)).trans hx1
       obtain ⟨ad2,q2,hy,hy1⟩:=at_T72 Q1.out x c0 c1
       cases q2
       replace hy:=(HB.out.cell (World.block_lt_of_cell? w _ hy)).trans hy
       replace hy1:=(HB.out.cell (World.block_lt_of_cell? w _ hy1)).trans hy1
       go_wp2
       repeat (go_quiet (fail);try go_wp2)
       ·obtain rfl:=sj (iT H (by first | assumption | simp_all))
        go_ret
        exact ⟨rr,bel⟩
       ·go_roundg k1
        case measure => omega
        case rel => exact ⟨_,rs,iF H (by first | exact Bool.eq_false_iff.mp (by assumption) | simp_all),⟨by have:=HK.out;omega⟩,⟨skb⟩,⟨skb⟩,⟨bel⟩⟩
      ·obtain rfl:=sj (iF H c)
       go_wp2
       go_ret
       exact ⟨rr,bel⟩
def token_small.f (a0:Int):Option (Bool):=if a0 ≥ 97 then (some (decide (a0 ≤ 122))) else (some false)
set_option maxHeartbeats 8000000 in
set_option maxRecDepth 100000 in
theorem token_small.calls (a0:Int) (r:Bool) (w:World) (h:token_small.f a0 = some r) :
  Calls Tryz.prog 120 #[.int .u8 a0] w fun e w' => e = .returned (.bool r) ∧ Drawn0 w w':=by
 have H:(if a0 ≥ 97 then (some (decide (a0 ≤ 122))) else (some false)) = some r:=h
 clear h
 by_cases c2:a0 ≥ 97
 ·rw [if_pos c2] at H
  have c2b0:decide (97 ≤ a0) = true:=decide_eq_true c2
  clear c2
  obtain rfl:=Option.some.inj H
  go_enter Tryz.func120,Tryz.ntmps120
  go_wp2
  go_ret
  exact ⟨rs,drw⟩
 ·rw [if_neg c2] at H
  have c2b0:decide (97 ≤ a0) = false:=decide_eq_false c2
  clear c2
  obtain rfl:=Option.some.inj H
  go_enter Tryz.func120,Tryz.ntmps120
  go_wp2
  go_ret
  exact ⟨rs,drw⟩
def token_digit.f (a0:Int):Option (Bool):=if a0 ≥ 48 then (some (decide (a0 ≤ 57))) else (some false)
set_option maxHeartbeats 8000000 in
set_option maxRecDepth 100000 in
theorem token_digit.calls (a0:Int) (r:Bool) (w:World) (h:token_digit.f a0 = some r) :
  Calls Tryz.prog 121 #[.int .u8 a0] w fun e w' => e = .returned (.bool r) ∧ Drawn0 w w':=by
 have H:(if a0 ≥ 48 then (some (decide (a0 ≤ 57))) else (some false)) = some r:=h
 clear h
 by_cases c2:a0 ≥ 48
 ·rw [if_pos c2] at H
  have c2b0:decide (48 ≤ a0) = true:=decide_eq_true c2
  clear c2
  obtain rfl:=Option.some.inj H
  go_enter Tryz.func121,Tryz.ntmps121
  go_wp2
  go_ret
  exact ⟨rs,drw⟩
 ·rw [if_neg c2] at H
  have c2b0:decide (48 ≤ a0) = false:=decide_eq_false c2
  clear c2
  obtain rfl:=Option.some.inj H
  go_enter Tryz.func121,Tryz.ntmps121
  go_wp2
  go_ret
  exact ⟨rs,drw⟩
mutual
def token_name.j0:Nat → ByteArray → Bool → Option (Int)
 | 0,_,_ => none
 | k + 1,x0,x12 => if x12 = true then (some 0) else (token_name.l0 k x0 1)
def token_name.l0:Nat → ByteArray → Int → Option (Int)
 | 0,_,_ => none
 | k + 1,x0,x3 => if x3 < (x0.size:Int) then (if 0 ≤ x3 then ((token_small.f (bt x0 x3)).bind fun t265 => (if t265 = true then (token_name.j2 k x0 x3 (bt x0 x3) true) else ((token_digit.f (bt x0 x3)).bind fun t266 => (token_name.j2 k x0 x3 (bt x0 x3) t266)))) else (none)) else (some x3)
def token_name.j2:Nat → ByteArray → Int → Int → Bool → Option (Int)
 | 0,_,_,_,_ => none
 | k + 1,x0,x3,x4,x21 => if x21 = true then (token_name.l0 k x0 (wrap64 (x3 + 1))) else (if x4 = 45 then (if (wrap64 (x3 + 1)) < (x0.size:Int) then (if 0 ≤ (wrap64 (x3 + 1)) then ((token_small.f (bt x0 (wrap64 (x3 + 1)))).bind fun t267 => (if t267 = true then (token_name.l0 k x0 (wrap64 (x3 + 2))) else ((token_digit.f (bt x0 (wrap64 (x3 + 1)))).bind fun t268 => (if t268 = true then (token_name.l0 k x0 (wrap64 (x3 + 2))) else (some x3))))) else (none)) else (some x3)) else (some x3))
end
def token_name.f (k:Nat) (a0:ByteArray):Option (Int):=if a0.toList = ([]:List UInt8) then (token_name.j0 k a0 true) else (if 0 < (a0.size:Int) then ((token_small.f (bt a0 0)).bind fun t264 => (token_name.j0 k a0 (!t264))) else (none))
set_option maxHeartbeats 8000000 in
set_option maxRecDepth 100000 in
theorem token_name.calls (k:Nat) (a0:ByteArray) (r:Int) (w:World) (h:token_name.f k a0 = some r) :
  Calls Tryz.prog 57 #[.string a0] w fun e w' => e = .returned (.int .i64 r) ∧ Drawn0 w w':=by
 have H:=am h
 clear h
 unfold token_name.f at H
 go_enter Tryz.func57,Tryz.ntmps57
 go_upto_region 1 with (fail)
 go_cut [12] (fun v11 wc => ∃ (kq:Nat) (b:Bool),v11 = .bool b ∧ Aside0 (token_name.j0 kq a0 b = some r) ∧ Aside0 (kq ≤ k) ∧ Drawn0 w wc)
 case first =>
  have hx:∀ h:0 < a0.size,((a0[0]'h).toNat:Int) = bt a0 0:=bt_at a0 0
  go_wp2_with (first | (go_at_call 120;obtain ⟨t,A,H⟩:=bE (jn (iF H (by assumption))).2;(with_reducible refine (token_small.calls (bt a0 0) t _ A.out).mono ?_);rintro e w' ⟨rfl,⟨nd,rfl⟩⟩))
  ·go_meet
   case rel => exact ⟨_,true,rs,iT H (by assumption),⟨Nat.le_refl _⟩,drw⟩
  ·go_meet
   case rel => exact ⟨_,!t,rs,H,⟨Nat.le_refl _⟩,drw⟩
  ·exact absurd (jn (iF H (by assumption))).1 (by omega)
 case rest =>
  clear H
  obtain ⟨kq,b,rfl,H,HJ,⟨mc,rfl⟩⟩:=hcut
  cases kq with
  | zero => exact absurd H.out (by simp [token_name.j0])
  | succ kj =>
   simp only [token_name.j0] at H
   cases b
   rotate_left
   ·obtain rfl:=sj (uT H rfl)
    go_wp2
    go_ret
    exact ⟨rs,drw⟩
   ·go_wp2
    go_loopg [3] kj (fun kq v3 w' => ∃ x:Int,v3 = .int .i64 x ∧ Aside0 (token_name.l0 kq a0 x = some r) ∧ Aside0 (kq ≤ kj) ∧ Drawn0 w w')
    case atStart => exact ⟨1,rs,uF H rfl,⟨Nat.le_refl _⟩,drw⟩
    case round =>
     clear H
     obtain ⟨x,rfl,H,HK,⟨m,rfl⟩⟩:=hrel
     cases gk with
     | zero => exact absurd H.out (by simp [token_name.l0])
     | succ k1 =>
      simp only [token_name.l0] at H
      by_cases c:x < (a0.size:Int)
      ·replace H:=jn (iT H c)
       obtain ⟨c0,H⟩:=H
       have hx:=bt_at a0 x
       go_upto_region 7 with (fail)
       go_cut [21] (fun v21 wc => ∃ (kq:Nat) (b:Bool),v21 = .bool b ∧ Aside0 (token_name.j2 kq a0 x (bt a0 x) b = some r) ∧ Aside0 (kq ≤ k1) ∧ Drawn0 w wc)
       case first =>
        go_wp2_with (first | (go_at_call 120;obtain ⟨t,A,H⟩:=bE H;(with_reducible refine (token_small.calls (bt a0 x) t _ A.out).mono ?_);rintro e w' ⟨rfl,⟨nd,rfl⟩⟩) | (go_at_call 121;obtain ⟨t2,A2,H⟩:=bE (iF H (by assumption));(with_reducible refine (token_digit.calls (bt a0 x) t2 _ A2.out).mono ?_);rintro e w' ⟨rfl,⟨nd2,rfl⟩⟩))
        ·go_meet
         case rel => exact ⟨_,true,rs,uT H (by assumption),⟨Nat.le_refl _⟩,drw⟩
        ·go_meet
         case rel => exact ⟨_,t2,rs,H,⟨Nat.le_refl _⟩,drw⟩
       case rest =>
        clear H
        obtain ⟨kq,b2,rfl,H,HJ2,⟨m2,rfl⟩⟩:=hcut
        cases kq with
        | zero => exact absurd H.out (by simp [token_name.j2])
        | succ k2 =>
         simp only [token_name.j2] at H
         have hx1:=bt_at a0 (wrap64 (x + 1))
         cases b2
         rotate_left
         ·replace H:=uT H rfl
          go_wp2
          go_roundg k2
          case measure => have:=HJ2.out;omega
          case rel => exact ⟨_,rs,H,⟨by have:=HJ2.out;have:=HK.out;omega⟩,drw⟩
         replace H:=uF H rfl
         go_wp2_with (first | (go_at_call 120;obtain ⟨t,A,H⟩:=bE (jn (iT (iT H (by assumption)) (by omega))).2;(with_reducible refine (token_small.calls (bt a0 (wrap64 (x + 1))) t _ A.out).mono ?_);rintro e w' ⟨rfl,⟨nd,rfl⟩⟩) | (go_at_call 121;obtain ⟨t2,A2,H⟩:=bE (iF H (by assumption));(with_reducible refine (token_digit.calls (bt a0 (wrap64 (x + 1))) t2 _ A2.out).mono ?_);rintro e w' ⟨rfl,⟨nd2,rfl⟩⟩))
         ·go_roundg k2
          case measure => have:=HJ2.out;omega
          case rel => exact ⟨_,rs,iT H (by assumption),⟨by have:=HJ2.out;have:=HK.out;omega⟩,drw⟩
         ·go_roundg k2
          case measure => have:=HJ2.out;omega
          case rel => exact ⟨_,rs,iT H (by assumption),⟨by have:=HJ2.out;have:=HK.out;omega⟩,drw⟩
         ·obtain rfl:=sj (uF H (by assumption))
          go_ret
          exact ⟨rs,drw⟩
         ·exact absurd (jn (iT (iT H (by assumption)) (by assumption))).1 (by omega)
         ·obtain rfl:=sj (iF (iT H (by assumption)) (by omega))
          go_ret
          exact ⟨rs,drw⟩
         ·obtain rfl:=sj (iF H (by assumption))
          go_ret
          exact ⟨rs,drw⟩
      ·go_wp2
       obtain rfl:=sj (iF H (by omega))
       go_ret
       exact ⟨rs,drw⟩
def token_IsName.f (k:Nat) (a0:ByteArray):Option (Bool):=if a0.toList = ([]:List UInt8) then (some false) else (if (a0.size:Int) ≤ 20 then ((token_name.f k a0).bind fun t269 => (some (t269 == (a0.size:Int)))) else (some false))
set_option maxHeartbeats 8000000 in
set_option maxRecDepth 100000 in
theorem token_IsName.calls (k:Nat) (a0:ByteArray) (r:Bool) (w:World) (h:token_IsName.f k a0 = some r) :
  Calls Tryz.prog 30 #[.string a0] w fun e w' => e = .returned (.bool r) ∧ Drawn0 w w':=by
 have H:(if a0.toList = ([]:List UInt8) then (some false) else (if (a0.size:Int) ≤ 20 then ((token_name.f k a0).bind fun t269 => (some (t269 == (a0.size:Int)))) else (some false))) = some r:=h
 clear h
 by_cases c2:a0.toList = ([]:List UInt8)
 ·rw [if_pos c2] at H
  have c2b0:(a0.toList == ([]:List UInt8)) = true:=beq_iff_eq.mpr c2
  have c2b1:(a0.toList != ([]:List UInt8)) = false:=bne_eq_false_iff_eq.mpr c2
  clear c2
  obtain rfl:=Option.some.inj H
  go_enter Tryz.func30,Tryz.ntmps30
  go_wp2
  go_ret
  exact ⟨rs,drw⟩
 ·rw [if_neg c2] at H
  have c2b0:(a0.toList == ([]:List UInt8)) = false:=beq_eq_false_iff_ne.mpr c2
  have c2b1:(a0.toList != ([]:List UInt8)) = true:=bne_iff_ne.mpr c2
  by_cases c3:(a0.size:Int) ≤ 20
  ·rw [if_pos c3] at H
   have c3b0:decide ((a0.size:Int) ≤ 20) = true:=decide_eq_true c3
   have c3b1:decide (a0.size ≤ 20) = true:=decide_eq_true (by omega)
   clear c3
   replace H:=Option.bind_eq_some_iff.mp H
   obtain ⟨t269,A40,H⟩:=H
   replace H:(some (t269 == (a0.size:Int))) = some r:=H
   have A4:=Aside0.mk A40
   clear A40
   obtain rfl:=Option.some.inj H
   go_enter Tryz.func30,Tryz.ntmps30
   go_wp2_with (first | (go_at_call 57;(with_reducible refine (token_name.calls k a0 t269 _ A4.out).mono ?_);rintro e w' ⟨rfl,⟨nd,rfl⟩⟩))
   go_ret
   exact ⟨rs,drw⟩
  ·rw [if_neg c3] at H
   have c3b0:decide ((a0.size:Int) ≤ 20) = false:=decide_eq_false c3
   have c3b1:decide (a0.size ≤ 20) = false:=decide_eq_false (by omega)
   clear c3
   obtain rfl:=Option.some.inj H
   go_enter Tryz.func30,Tryz.ntmps30
   go_wp2
   go_ret
   exact ⟨rs,drw⟩
def tally_entry.j0:Nat → Int → Bool → List ByteArray → List Int → Option (Int)
 | 0,_,_,_,_ => none
 | k + 1,x1,x15,x271000,x271001 => if x15 = true then (some 18) else (if 0 ≤ x1 then (if x1 < (x271001.length:Int) then (if (rd x271001 x1) < 1 then (some 6) else (if (rd x271001 x1) > 1000000 then (some 6) else (some 0))) else (none)) else (none))
def tally_entry.f (k:Nat) (l0_0:List ByteArray) (l0_1:List Int) (a1:Int):Option (Int):=if 0 ≤ a1 then (if a1 < (l0_0.length:Int) then ((tally_wrong.f k (rdOf ByteArray.empty l0_0 a1)).bind fun t272 => (if t272 = 0 then (if a1 > 0 then (if 0 ≤ (wrap64 (a1 - 1)) then (if (wrap64 (a1 - 1)) < (l0_0.length:Int) then (tally_entry.j0 k a1 (!(Op.bytesLess ((rdOf ByteArray.empty l0_0 (wrap64 (a1 - 1))).toList) ((rdOf ByteArray.empty l0_0 a1).toList))) l0_0 l0_1) else (none)) else (none)) else (tally_entry.j0 k a1 false l0_0 l0_1)) else (some t272))) else (none)) else (none)
set_option maxHeartbeats 8000000 in
set_option maxRecDepth 100000 in
theorem tally_entry.calls (k:Nat) (A0_0:Option Addr) (c0_0:Nat) (l0_0:List ByteArray) (A0_1:Option Addr) (c0_1:Nat) (l0_1:List Int) (a1:Int) (r:Int) (w:World) (hr0_0:Kd.C Kd.string w A0_0 l0_0.length l0_0) (hc0_0:l0_0.length ≤ c0_0) (hr0_1:Kd.C (Kd.int .i64) w A0_1 l0_1.length l0_1) (hc0_1:l0_1.length ≤ c0_1) (h:tally_entry.f k l0_0 l0_1 a1 = some r) :
  Calls Tryz.prog 104 #[.agg #[.slice A0_0 l0_0.length c0_0,.slice A0_1 l0_1.length c0_1],.int .i64 a1] w fun e w' => e = .returned (.int .i64 r) ∧ Below w.heap.size w w':=by
 have hu26:=Tryz.underlying26
 have HR0_0:=Aside0.mk hr0_0
 have HC0_0:=Aside0.mk hc0_0
 clear hr0_0 hc0_0
 have HR0_1:=Aside0.mk hr0_1
 have HC0_1:=Aside0.mk hc0_1
 clear hr0_1 hc0_1
 have HB:=Aside0.mk (Below.refl w.heap.size w)
 have H:(if 0 ≤ a1 then (if a1 < (l0_0.length:Int) then ((tally_wrong.f k (rdOf ByteArray.empty l0_0 a1)).bind fun t272 => (if t272 = 0 then (if a1 > 0 then (if 0 ≤ (wrap64 (a1 - 1)) then (if (wrap64 (a1 - 1)) < (l0_0.length:Int) then (tally_entry.j0 k a1 (!(Op.bytesLess ((rdOf ByteArray.empty l0_0 (wrap64 (a1 - 1))).toList) ((rdOf ByteArray.empty l0_0 a1).toList))) l0_0 l0_1) else (none)) else (none)) else (tally_entry.j0 k a1 false l0_0 l0_1)) else (some t272))) else (none)) else (none)) = some r:=h
 clear h
 by_cases c3:0 ≤ a1
 ·rw [if_pos c3] at H
  have c3b0:decide (0 ≤ a1) = true:=decide_eq_true c3
  clear c3
  by_cases c4:a1 < (l0_0.length:Int)
  ·rw [if_pos c4] at H
   have c4b0:decide (a1 < (l0_0.length:Int)) = true:=decide_eq_true c4
   clear c4
   replace H:=Option.bind_eq_some_iff.mp H
   obtain ⟨t272,A50,H⟩:=H
   replace H:(if t272 = 0 then (if a1 > 0 then (if 0 ≤ (wrap64 (a1 - 1)) then (if (wrap64 (a1 - 1)) < (l0_0.length:Int) then (tally_entry.j0 k a1 (!(Op.bytesLess ((rdOf ByteArray.empty l0_0 (wrap64 (a1 - 1))).toList) ((rdOf ByteArray.empty l0_0 a1).toList))) l0_0 l0_1) else (none)) else (none)) else (tally_entry.j0 k a1 false l0_0 l0_1)) else (some t272)) = some r:=H
   have A5:=Aside0.mk A50
   clear A50
   by_cases c6:t272 = 0
   ·rw [if_pos c6] at H
    have c6b0:(t272 == 0) = true:=beq_iff_eq.mpr c6
    have c6b1:(t272 != 0) = false:=bne_eq_false_iff_eq.mpr c6
    clear c6
    have HC7:=Aside0.mk H
    clear H
    go_enter Tryz.func104,Tryz.ntmps104
    go_upto_region 4 with (first | ((with_reducible refine gate_dst (N:=2) rfl ?_);refine box_event ?hg (N:=2) ?hd (cs:=#[.slice A0_0 l0_0.length c0_0,.slice A0_1 l0_1.length c0_1]) (t:=26) ?hr ?_;(case hd => rfl);(case hg => rfl);(case hr => first | (go_simp;done) | (go_simp;rfl));intro gb270 hg w8 hbox hb;have n0_:=Aside0.mk (below_step bel hb);have n1_:=Aside0.mk (hbox);have n2_:=Aside0.mk ((by rw [hg];exact (below_size bel):w.heap.size ≤ gb270));have n3_:=Aside0.mk ((by rw [hg];exact (below_size bel):w.heap.size ≤ gb270));clear HB;have HB:=n0_;have BK270:=n1_;have GW270:=n2_;have GE270:=n3_;clear n0_ n1_ n2_ n3_;clear hb hbox hg;have hcz9_0:w8.cell? ⟨gb270,0,none⟩ = some (.slice A0_0 l0_0.length c0_0):=(blk_cell BK270.out 0).trans rfl;have hcz9_1:w8.cell? ⟨gb270,1,none⟩ = some (.slice A0_1 l0_1.length c0_1):=(blk_cell BK270.out 1).trans rfl;have hfz9_0:=blk_frozen BK270.out 0;have hfz9_1:=blk_frozen BK270.out 1;have p271:0 ≤ (a1:Int):=of_decide_eq_true asm;have q271:a1 < (l0_0.length:Int):=of_decide_eq_true asm;obtain ⟨ad271,e271,hx271_0⟩:=Kd.at_string HR0_0.out a1 p271 q271;cases e271;replace hx271_0:=(HB.out.cell (World.block_lt_of_cell? w _ hx271_0)).trans hx271_0;replace p271:=eq_true p271;replace q271:=eq_true q271) | (go_at_call 105;(with_reducible refine (tally_wrong.calls k (rdOf ByteArray.empty l0_0 a1) t272 _ A5.out).mono ?_);rintro e w10 ⟨rfl,hb⟩;have n0_:=Aside0.mk (blk_below (g:=gb270) (o:=.cells #[.slice (some ad271) l0_0.length c0_0,.slice A0_1 l0_1.length c0_1] 26 (0,0)) skb hb);have n1_:=Aside0.mk (below_step bel hb);clear BK270;clear HB;have BK270:=n0_;have HB:=n1_;clear n0_ n1_;(try clear hb);(try clear hb2);(try clear hk);(try clear hi)))
    repeat (go_quiet (first | ((with_reducible refine gate_dst (N:=2) rfl ?_);refine box_event ?hg (N:=2) ?hd (cs:=#[.slice A0_0 l0_0.length c0_0,.slice A0_1 l0_1.length c0_1]) (t:=26) ?hr ?_;(case hd => rfl);(case hg => rfl);(case hr => first | (go_simp;done) | (go_simp;rfl));intro gb270 hg w8 hbox hb;have n0_:=Aside0.mk (below_step bel hb);have n1_:=Aside0.mk (hbox);have n2_:=Aside0.mk ((by rw [hg];exact (below_size bel):w.heap.size ≤ gb270));have n3_:=Aside0.mk ((by rw [hg];exact (below_size bel):w.heap.size ≤ gb270));clear HB;have HB:=n0_;have BK270:=n1_;have GW270:=n2_;have GE270:=n3_;clear n0_ n1_ n2_ n3_;clear hb hbox hg;have hcz9_0:w8.cell? ⟨gb270,0,none⟩ = some (.slice A0_0 l0_0.length c0_0):=(blk_cell BK270.out 0).trans rfl;have hcz9_1:w8.cell? ⟨gb270,1,none⟩ = some (.slice A0_1 l0_1.length c0_1):=(blk_cell BK270.out 1).trans rfl;have hfz9_0:=blk_frozen BK270.out 0;have hfz9_1:=blk_frozen BK270.out 1;have p271:0 ≤ (a1:Int):=of_decide_eq_true asm;have q271:a1 < (l0_0.length:Int):=of_decide_eq_true asm;obtain ⟨ad271,e271,hx271_0⟩:=Kd.at_string HR0_0.out a1 p271 q271;cases e271;replace hx271_0:=(HB.out.cell (World.block_lt_of_cell? w _ hx271_0)).trans hx271_0;replace p271:=eq_true p271;replace q271:=eq_true q271) | (go_at_call 105;(with_reducible refine (tally_wrong.calls k (rdOf ByteArray.empty l0_0 a1) t272 _ A5.out).mono ?_);rintro e w10 ⟨rfl,hb⟩;have n0_:=Aside0.mk (blk_below (g:=gb270) (o:=.cells #[.slice (some ad271) l0_0.length c0_0,.slice A0_1 l0_1.length c0_1] 26 (0,0)) skb hb);have n1_:=Aside0.mk (below_step bel hb);clear BK270;clear HB;have BK270:=n0_;have HB:=n1_;clear n0_ n1_;(try clear hb);(try clear hb2);(try clear hk);(try clear hi)));go_upto_region 4 with (first | ((with_reducible refine gate_dst (N:=2) rfl ?_);refine box_event ?hg (N:=2) ?hd (cs:=#[.slice A0_0 l0_0.length c0_0,.slice A0_1 l0_1.length c0_1]) (t:=26) ?hr ?_;(case hd => rfl);(case hg => rfl);(case hr => first | (go_simp;done) | (go_simp;rfl));intro gb270 hg w8 hbox hb;have n0_:=Aside0.mk (below_step bel hb);have n1_:=Aside0.mk (hbox);have n2_:=Aside0.mk ((by rw [hg];exact (below_size bel):w.heap.size ≤ gb270));have n3_:=Aside0.mk ((by rw [hg];exact (below_size bel):w.heap.size ≤ gb270));clear HB;have HB:=n0_;have BK270:=n1_;have GW270:=n2_;have GE270:=n3_;clear n0_ n1_ n2_ n3_;clear hb hbox hg;have hcz9_0:w8.cell? ⟨gb270,0,none⟩ = some (.slice A0_0 l0_0.length c0_0):=(blk_cell BK270.out 0).trans rfl;have hcz9_1:w8.cell? ⟨gb270,1,none⟩ = some (.slice A0_1 l0_1.length c0_1):=(blk_cell BK270.out 1).trans rfl;have hfz9_0:=blk_frozen BK270.out 0;have hfz9_1:=blk_frozen BK270.out 1;have p271:0 ≤ (a1:Int):=of_decide_eq_true asm;have q271:a1 < (l0_0.length:Int):=of_decide_eq_true asm;obtain ⟨ad271,e271,hx271_0⟩:=Kd.at_string HR0_0.out a1 p271 q271;cases e271;replace hx271_0:=(HB.out.cell (World.block_lt_of_cell? w _ hx271_0)).trans hx271_0;replace p271:=eq_true p271;replace q271:=eq_true q271) | (go_at_call 105;(with_reducible refine (tally_wrong.calls k (rdOf ByteArray.empty l0_0 a1) t272 _ A5.out).mono ?_);rintro e w10 ⟨rfl,hb⟩;have n0_:=Aside0.mk (blk_below (g:=gb270) (o:=.cells #[.slice (some ad271) l0_0.length c0_0,.slice A0_1 l0_1.length c0_1] 26 (0,0)) skb hb);have n1_:=Aside0.mk (below_step bel hb);clear BK270;clear HB;have BK270:=n0_;have HB:=n1_;clear n0_ n1_;(try clear hb);(try clear hb2);(try clear hk);(try clear hi))))
    (try simp only [Act.put,List.setIfInBounds_toArray,List.set_cons_zero,List.set_cons_succ])
    go_cut [15] (fun v15 wc => ∃ (kq:Nat) (x15_6:Bool),v15 = .bool x15_6 ∧ Aside0 (tally_entry.j0 kq a1 x15_6 l0_0 l0_1 = some r) ∧ Aside0 (kq ≤ k) ∧ Aside0 (wc.heap[gb270]? = some (.cells #[(.slice (some ad271) l0_0.length c0_0),(.slice A0_1 l0_1.length c0_1)] 26 (0,0))) ∧ Aside0 (Below w.heap.size w wc))
    case first =>
     have H:=HC7.out
     clear HC7
     by_cases c11:a1 > 0
     ·rw [if_pos c11] at H
      have c11b0:decide (0 < a1) = true:=decide_eq_true c11
      clear c11
      (first | rw [c11b0] | (simp only [i64_w];rw [c11b0]) | skip)
      obtain ⟨ji12,hji12⟩:∃ j_:Int,(wrap64 (a1 - 1)) = j_:=⟨_,rfl⟩
      replace H:(if 0 ≤ (ji12) then (if (ji12) < (l0_0.length:Int) then (tally_entry.j0 k a1 (!(Op.bytesLess ((rdOf ByteArray.empty l0_0 (ji12)).toList) ((rdOf ByteArray.empty l0_0 a1).toList))) l0_0 l0_1) else (none)) else (none)) = some r:=by first | (rw [hji12] at H;exact H) | (simp only [hji12] at H ⊢;exact H)
      have hji12w:(IntKind.i64.wrap (a1 - 1)) = ji12:=(i64_w _).trans hji12
      by_cases c13:0 ≤ (ji12)
      ·rw [if_pos c13] at H
       have c13b0:decide (0 ≤ (ji12)) = true:=decide_eq_true c13
       clear c13
       by_cases c14:(ji12) < (l0_0.length:Int)
       ·rw [if_pos c14] at H
        have c14b0:decide ((ji12) < (l0_0.length:Int)) = true:=decide_eq_true c14
        clear c14
        have H':=Aside0.mk H
        clear H
        have hcz15_0:w10.cell? ⟨gb270,0,none⟩ = some (.slice (some ad271) l0_0.length c0_0):=(blk_cell BK270.out 0).trans rfl
        have hcz15_1:w10.cell? ⟨gb270,1,none⟩ = some (.slice A0_1 l0_1.length c0_1):=(blk_cell BK270.out 1).trans rfl
        have hfz15_0:=blk_frozen BK270.out 0
        have hfz15_1:=blk_frozen BK270.out 1
        have p273:0 ≤ ((ji12):Int):=of_decide_eq_true asm
        have q273:(ji12) < (l0_0.length:Int):=of_decide_eq_true asm
        obtain ⟨ad273,e273,hx273_0⟩:=Kd.at_string HR0_0.out (ji12) p273 q273
        obtain rfl:ad271 = ad273:=(by injection e273)
        replace hx273_0:=(HB.out.cell (World.block_lt_of_cell? w _ hx273_0)).trans hx273_0
        replace p273:=eq_true p273
        replace q273:=eq_true q273
        have p274:0 ≤ (a1:Int):=of_decide_eq_true asm
        have q274:a1 < (l0_0.length:Int):=of_decide_eq_true asm
        obtain ⟨ad274,e274,hx274_0⟩:=Kd.at_string HR0_0.out a1 p274 q274
        obtain rfl:ad271 = ad274:=(by injection e274)
        replace hx274_0:=(HB.out.cell (World.block_lt_of_cell? w _ hx274_0)).trans hx274_0
        replace p274:=eq_true p274
        replace q274:=eq_true q274
        have hq:=fun x y W => geqS (P:=Tryz.prog) 9 x y W
        have hq2:=fun x y W => leqS (P:=Tryz.prog) 9 x y W
        go_wp2
        repeat (go_quiet (fail);try go_wp2)
        go_meet
        case rel => exact ⟨_,(!(Op.bytesLess ((rdOf ByteArray.empty l0_0 (ji12)).toList) ((rdOf ByteArray.empty l0_0 a1).toList))),(by first | rfl | (simp;done) | (simp only [← hji12] <;> (first | rfl | simp)) | (simp [*];done)),H',⟨by first | omega | exact Nat.le_refl _⟩,⟨skb⟩,⟨bel⟩⟩
       ·rw [if_neg c14] at H
        exact absurd H (by simp)
      ·rw [if_neg c13] at H
       exact absurd H (by simp)
     ·rw [if_neg c11] at H
      have c11b0:decide (0 < a1) = false:=decide_eq_false c11
      clear c11
      (first | rw [c11b0] | (simp only [i64_w];rw [c11b0]) | skip)
      have H':=Aside0.mk H
      clear H
      go_wp2
      repeat (go_quiet (fail);try go_wp2)
      go_meet
      case rel => exact ⟨_,(false),rs,H',⟨by first | omega | exact Nat.le_refl _⟩,⟨skb⟩,⟨bel⟩⟩
    case rest =>
     clear HC7
     try clear c1
     try clear p2
     try clear q2
     try clear hx2
     try clear c3
     try clear c3b0
     try clear c4
     try clear c4b0
     try clear c6
     try clear c6b0
     try clear c6b1
     try clear p6
     try clear c11
     try clear c11b0
     try clear c13
     try clear c13b0
     try clear c14
     try clear c14b0
     try clear hcz15_0
     try clear hcz15_1
     try clear hcz9_0
     try clear hcz9_1
     try clear hfz15_0
     try clear hfz15_1
     try clear hfz9_0
     try clear hfz9_1
     try clear hx271_0
     try clear hx273_0
     try clear hx274_0
     try clear p271
     try clear p273
     try clear p274
     try clear q271
     try clear q273
     try clear q274
     obtain ⟨kq,x15_6,rfl,HA,HJ6,BK270,HB⟩:=hcut
     cases kq with
     | zero => exact absurd HA.out (by simp [tally_entry.j0])
     | succ kj6 =>
      have H:=HA.out
      clear HA
      simp only [tally_entry.j0] at H
      by_cases c16:x15_6 = true
      ·subst c16
       have H1:(some 18) = some r:=by rw [if_pos rfl] at H;exact H
       clear H
       have H:=H1
       clear H1
       obtain rfl:=Option.some.inj H
       go_wp2
       repeat (go_quiet (fail);try go_wp2)
       go_ret
       exact ⟨rr,bel⟩
      ·replace c16:=Bool.eq_false_iff.mpr c16
       subst c16
       have H1:(if 0 ≤ a1 then (if a1 < (l0_1.length:Int) then (if (rd l0_1 a1) < 1 then (some 6) else (if (rd l0_1 a1) > 1000000 then (some 6) else (some 0))) else (none)) else (none)) = some r:=by rw [if_neg (show ¬ (false = true) by decide)] at H;exact H
       clear H
       have H:=H1
       clear H1
       by_cases c17:0 ≤ a1
       ·rw [if_pos c17] at H
        have c17b0:decide (0 ≤ a1) = true:=decide_eq_true c17
        clear c17
        by_cases c18:a1 < (l0_1.length:Int)
        ·rw [if_pos c18] at H
         have c18b0:decide (a1 < (l0_1.length:Int)) = true:=decide_eq_true c18
         clear c18
         by_cases c19:(rd l0_1 a1) < 1
         ·rw [if_pos c19] at H
          have c19b0:decide ((rd l0_1 a1) < 1) = true:=decide_eq_true c19
          clear c19
          obtain rfl:=Option.some.inj H
          have hcz20_0:wc.cell? ⟨gb270,0,none⟩ = some (.slice (some ad271) l0_0.length c0_0):=(blk_cell BK270.out 0).trans rfl
          have hcz20_1:wc.cell? ⟨gb270,1,none⟩ = some (.slice A0_1 l0_1.length c0_1):=(blk_cell BK270.out 1).trans rfl
          have hfz20_0:=blk_frozen BK270.out 0
          have hfz20_1:=blk_frozen BK270.out 1
          have p275:0 ≤ (a1:Int):=of_decide_eq_true asm
          have q275:a1 < (l0_1.length:Int):=of_decide_eq_true asm
          obtain ⟨ad275,e275,hx275_0⟩:=Kd.at_int HR0_1.out a1 p275 q275
          cases e275
          replace hx275_0:=(HB.out.cell (World.block_lt_of_cell? w _ hx275_0)).trans hx275_0
          replace p275:=eq_true p275
          replace q275:=eq_true q275
          go_wp2
          repeat (go_quiet (fail);try go_wp2)
          go_ret
          exact ⟨rr,bel⟩
         ·rw [if_neg c19] at H
          have c19b0:decide ((rd l0_1 a1) < 1) = false:=decide_eq_false c19
          clear c19
          by_cases c21:(rd l0_1 a1) > 1000000
          ·rw [if_pos c21] at H
           have c21b0:decide (1000000 < (rd l0_1 a1)) = true:=decide_eq_true c21
           clear c21
           obtain rfl:=Option.some.inj H
           have hcz22_0:wc.cell? ⟨gb270,0,none⟩ = some (.slice (some ad271) l0_0.length c0_0):=(blk_cell BK270.out 0).trans rfl
           have hcz22_1:wc.cell? ⟨gb270,1,none⟩ = some (.slice A0_1 l0_1.length c0_1):=(blk_cell BK270.out 1).trans rfl
           have hfz22_0:=blk_frozen BK270.out 0
           have hfz22_1:=blk_frozen BK270.out 1
           have p275:0 ≤ (a1:Int):=of_decide_eq_true asm
           have q275:a1 < (l0_1.length:Int):=of_decide_eq_true asm
           obtain ⟨ad275,e275,hx275_0⟩:=Kd.at_int HR0_1.out a1 p275 q275
           cases e275
           replace hx275_0:=(HB.out.cell (World.block_lt_of_cell? w _ hx275_0)).trans hx275_0
           replace p275:=eq_true p275
           replace q275:=eq_true q275
           have p276:0 ≤ (a1:Int):=of_decide_eq_true asm
           have q276:a1 < (l0_1.length:Int):=of_decide_eq_true asm
           obtain ⟨ad276,e276,hx276_0⟩:=Kd.at_int HR0_1.out a1 p276 q276
           obtain rfl:ad275 = ad276:=(by injection e276)
           replace hx276_0:=(HB.out.cell (World.block_lt_of_cell? w _ hx276_0)).trans hx276_0
           replace p276:=eq_true p276
           replace q276:=eq_true q276
           go_wp2
           repeat (go_quiet (fail);try go_wp2)
           go_ret
           exact ⟨rr,bel⟩
          ·rw [if_neg c21] at H
           have c21b0:decide (1000000 < (rd l0_1 a1)) = false:=decide_eq_false c21
           clear c21
           obtain rfl:=Option.some.inj H
           have hcz23_0:wc.cell? ⟨gb270,0,none⟩ = some (.slice (some ad271) l0_0.length c0_0):=(blk_cell BK270.out 0).trans rfl
           have hcz23_1:wc.cell? ⟨gb270,1,none⟩ = some (.slice A0_1 l0_1.length c0_1):=(blk_cell BK270.out 1).trans rfl
           have hfz23_0:=blk_frozen BK270.out 0
           have hfz23_1:=blk_frozen BK270.out 1
           have p275:0 ≤ (a1:Int):=of_decide_eq_true asm
           have q275:a1 < (l0_1.length:Int):=of_decide_eq_true asm
           obtain ⟨ad275,e275,hx275_0⟩:=Kd.at_int HR0_1.out a1 p275 q275
           cases e275
           replace hx275_0:=(HB.out.cell (World.block_lt_of_cell? w _ hx275_0)).trans hx275_0
           replace p275:=eq_true p275
           replace q275:=eq_true q275
           have p276:0 ≤ (a1:Int):=of_decide_eq_true asm
           have q276:a1 < (l0_1.length:Int):=of_decide_eq_true asm
           obtain ⟨ad276,e276,hx276_0⟩:=Kd.at_int HR0_1.out a1 p276 q276
           obtain rfl:ad275 = ad276:=(by injection e276)
           replace hx276_0:=(HB.out.cell (World.block_lt_of_cell? w _ hx276_0)).trans hx276_0
           replace p276:=eq_true p276
           replace q276:=eq_true q276
           go_wp2
           repeat (go_quiet (fail);try go_wp2)
           go_ret
           exact ⟨rr,bel⟩
        ·rw [if_neg c18] at H
         exact absurd H (by simp)
       ·rw [if_neg c17] at H
        exact absurd H (by simp)
   ·rw [if_neg c6] at H
    have c6b0:(t272 == 0) = false:=beq_eq_false_iff_ne.mpr c6
    have c6b1:(t272 != 0) = true:=bne_iff_ne.mpr c6
    obtain rfl:=Option.some.inj H
    go_enter Tryz.func104,Tryz.ntmps104
    go_wp2_with (first | ((with_reducible refine gate_dst (N:=2) rfl ?_);refine box_event ?hg (N:=2) ?hd (cs:=#[.slice A0_0 l0_0.length c0_0,.slice A0_1 l0_1.length c0_1]) (t:=26) ?hr ?_;(case hd => rfl);(case hg => rfl);(case hr => first | (go_simp;done) | (go_simp;rfl));intro gb270 hg w24 hbox hb;have n0_:=Aside0.mk (below_step bel hb);have n1_:=Aside0.mk (hbox);have n2_:=Aside0.mk ((by rw [hg];exact (below_size bel):w.heap.size ≤ gb270));have n3_:=Aside0.mk ((by rw [hg];exact (below_size bel):w.heap.size ≤ gb270));clear HB;have HB:=n0_;have BK270:=n1_;have GW270:=n2_;have GE270:=n3_;clear n0_ n1_ n2_ n3_;clear hb hbox hg;have hcz25_0:w24.cell? ⟨gb270,0,none⟩ = some (.slice A0_0 l0_0.length c0_0):=(blk_cell BK270.out 0).trans rfl;have hcz25_1:w24.cell? ⟨gb270,1,none⟩ = some (.slice A0_1 l0_1.length c0_1):=(blk_cell BK270.out 1).trans rfl;have hfz25_0:=blk_frozen BK270.out 0;have hfz25_1:=blk_frozen BK270.out 1;have p271:0 ≤ (a1:Int):=of_decide_eq_true asm;have q271:a1 < (l0_0.length:Int):=of_decide_eq_true asm;obtain ⟨ad271,e271,hx271_0⟩:=Kd.at_string HR0_0.out a1 p271 q271;cases e271;replace hx271_0:=(HB.out.cell (World.block_lt_of_cell? w _ hx271_0)).trans hx271_0;replace p271:=eq_true p271;replace q271:=eq_true q271) | (go_at_call 105;(with_reducible refine (tally_wrong.calls k (rdOf ByteArray.empty l0_0 a1) t272 _ A5.out).mono ?_);rintro e w26 ⟨rfl,hb⟩;have n0_:=Aside0.mk (blk_below (g:=gb270) (o:=.cells #[.slice (some ad271) l0_0.length c0_0,.slice A0_1 l0_1.length c0_1] 26 (0,0)) skb hb);have n1_:=Aside0.mk (below_step bel hb);clear BK270;clear HB;have BK270:=n0_;have HB:=n1_;clear n0_ n1_;(try clear hb);(try clear hb2);(try clear hk);(try clear hi)))
    repeat (go_quiet (first | ((with_reducible refine gate_dst (N:=2) rfl ?_);refine box_event ?hg (N:=2) ?hd (cs:=#[.slice A0_0 l0_0.length c0_0,.slice A0_1 l0_1.length c0_1]) (t:=26) ?hr ?_;(case hd => rfl);(case hg => rfl);(case hr => first | (go_simp;done) | (go_simp;rfl));intro gb270 hg w24 hbox hb;have n0_:=Aside0.mk (below_step bel hb);have n1_:=Aside0.mk (hbox);have n2_:=Aside0.mk ((by rw [hg];exact (below_size bel):w.heap.size ≤ gb270));have n3_:=Aside0.mk ((by rw [hg];exact (below_size bel):w.heap.size ≤ gb270));clear HB;have HB:=n0_;have BK270:=n1_;have GW270:=n2_;have GE270:=n3_;clear n0_ n1_ n2_ n3_;clear hb hbox hg;have hcz25_0:w24.cell? ⟨gb270,0,none⟩ = some (.slice A0_0 l0_0.length c0_0):=(blk_cell BK270.out 0).trans rfl;have hcz25_1:w24.cell? ⟨gb270,1,none⟩ = some (.slice A0_1 l0_1.length c0_1):=(blk_cell BK270.out 1).trans rfl;have hfz25_0:=blk_frozen BK270.out 0;have hfz25_1:=blk_frozen BK270.out 1;have p271:0 ≤ (a1:Int):=of_decide_eq_true asm;have q271:a1 < (l0_0.length:Int):=of_decide_eq_true asm;obtain ⟨ad271,e271,hx271_0⟩:=Kd.at_string HR0_0.out a1 p271 q271;cases e271;replace hx271_0:=(HB.out.cell (World.block_lt_of_cell? w _ hx271_0)).trans hx271_0;replace p271:=eq_true p271;replace q271:=eq_true q271) | (go_at_call 105;(with_reducible refine (tally_wrong.calls k (rdOf ByteArray.empty l0_0 a1) t272 _ A5.out).mono ?_);rintro e w26 ⟨rfl,hb⟩;have n0_:=Aside0.mk (blk_below (g:=gb270) (o:=.cells #[.slice (some ad271) l0_0.length c0_0,.slice A0_1 l0_1.length c0_1] 26 (0,0)) skb hb);have n1_:=Aside0.mk (below_step bel hb);clear BK270;clear HB;have BK270:=n0_;have HB:=n1_;clear n0_ n1_;(try clear hb);(try clear hb2);(try clear hk);(try clear hi)));try go_wp2_with (first | ((with_reducible refine gate_dst (N:=2) rfl ?_);refine box_event ?hg (N:=2) ?hd (cs:=#[.slice A0_0 l0_0.length c0_0,.slice A0_1 l0_1.length c0_1]) (t:=26) ?hr ?_;(case hd => rfl);(case hg => rfl);(case hr => first | (go_simp;done) | (go_simp;rfl));intro gb270 hg w24 hbox hb;have n0_:=Aside0.mk (below_step bel hb);have n1_:=Aside0.mk (hbox);have n2_:=Aside0.mk ((by rw [hg];exact (below_size bel):w.heap.size ≤ gb270));have n3_:=Aside0.mk ((by rw [hg];exact (below_size bel):w.heap.size ≤ gb270));clear HB;have HB:=n0_;have BK270:=n1_;have GW270:=n2_;have GE270:=n3_;clear n0_ n1_ n2_ n3_;clear hb hbox hg;have hcz25_0:w24.cell? ⟨gb270,0,none⟩ = some (.slice A0_0 l0_0.length c0_0):=(blk_cell BK270.out 0).trans rfl;have hcz25_1:w24.cell? ⟨gb270,1,none⟩ = some (.slice A0_1 l0_1.length c0_1):=(blk_cell BK270.out 1).trans rfl;have hfz25_0:=blk_frozen BK270.out 0;have hfz25_1:=blk_frozen BK270.out 1;have p271:0 ≤ (a1:Int):=of_decide_eq_true asm;have q271:a1 < (l0_0.length:Int):=of_decide_eq_true asm;obtain ⟨ad271,e271,hx271_0⟩:=Kd.at_string HR0_0.out a1 p271 q271;cases e271;replace hx271_0:=(HB.out.cell (World.block_lt_of_cell? w _ hx271_0)).trans hx271_0;replace p271:=eq_true p271;replace q271:=eq_true q271) | (go_at_call 105;(with_reducible refine (tally_wrong.calls k (rdOf ByteArray.empty l0_0 a1) t272 _ A5.out).mono ?_);rintro e w26 ⟨rfl,hb⟩;have n0_:=Aside0.mk (blk_below (g:=gb270) (o:=.cells #[.slice (some ad271) l0_0.length c0_0,.slice A0_1 l0_1.length c0_1] 26 (0,0)) skb hb);have n1_:=Aside0.mk (below_step bel hb);clear BK270;clear HB;have BK270:=n0_;have HB:=n1_;clear n0_ n1_;(try clear hb);(try clear hb2);(try clear hk);(try clear hi))))
    go_ret
    exact ⟨rr,bel⟩
  ·rw [if_neg c4] at H
   exact absurd H (by simp)
 ·rw [if_neg c3] at H
  exact absurd H (by simp)
theorem info3':(Tryz.prog.info? 3).map (fun i => (i.zero,i.size,i.bytes)) = some (some (.int .i64 0),1,8):=by kernel_rfl
theorem info9':(Tryz.prog.info? 9).map (fun i => (i.zero,i.size,i.bytes)) = some (some (.string ⟨#[]⟩),1,16):=by kernel_rfl
theorem info72':(Tryz.prog.info? 72).map (fun i => (i.zero,i.size,i.bytes)) = some (some (.agg #[(.string ⟨#[]⟩),(.string ⟨#[]⟩)]),2,32):=by kernel_rfl
theorem nilS {P:Program} (w:World) {t e:TypeId} (a:Option Addr) (n c:Nat) (ht:P.underlying t = some (.slice e)) :
  (binOp .eql t (.slice a n c) (.slice none 0 0)).run P w = .ok (.bool a.isNone) w:=by
 have h:∀ d:Nat,(Op.equalIn (d + 1) t (.slice a n c) (.slice none 0 0)).run P w = .ok a.isNone w:=fun d => by
  cases a <;> simp [Op.equalIn,run_underlying ht]
 simp only [binOp]
 simp [Op.equal,Op.maxDepth,h 9999]
set_option maxHeartbeats 8000000
set_option maxRecDepth 100000
theorem clone23 (A0:Option Addr) (c0:Nat) (l0:List S72) (w:World) (hr0:Kd.C k72 w A0 l0.length l0) (hc0:l0.length ≤ c0) (hbig:l0.length ≤ 3000) :
  Calls Tryz.prog 24 #[.slice A0 l0.length c0] w fun e w' => ∃ v0_:Value,e = .returned v0_ ∧ Kd.R k72 72 w' w.heap.size (fun _ => True) v0_ l0 ∧ Below w.heap.size w w':=by
 have HR0:=Aside0.mk hr0
 have HBIG:=Aside0.mk hbig
 clear hr0 hbig
 have HB:=Aside0.mk (Below.refl w.heap.size w)
 have hnil:∀ W,(binOp .eql 22 (.slice A0 l0.length c0) (.slice none 0 0)).run Tryz.prog W = .ok (.bool A0.isNone) W:=fun W => nilS W _ _ _ Tryz.underlying22
 cases A0 with
 | none =>
  have hn:l0.length = 0:=by
   rcases Nat.eq_zero_or_pos l0.length with h | h
   ·exact h
   ·obtain ⟨_,e0,_⟩:=HR0.out.2.2 h
    cases e0
  have HN:=Aside0.mk hn
  clear hn
  go_enter Tryz.func24,Tryz.ntmps24
  go_wp2
  go_ret
  have hl:l0 = []:=List.length_eq_zero_iff.1 HN.out
  subst hl
  exact ⟨_,rfl,Kd.R_nil _ _ _ _ _,bel⟩
 | some ad =>
  go_enter Tryz.func24,Tryz.ntmps24
  go_wp2_with (first | ((with_reducible refine gate_dst (N:=5) rfl ?_);refine Kd.R_lit k72 (w0:=w) w.heap.size 72 ?hg (N:=5) ?hd (xs:=([]:List S72)) (inner:=[]) (ok:=fun _ => True) (okp:=fun _ => True) ?hr ?hp (fun _ hk => hk) trivial HB.out (Nat.le_refl _) (by simp) ?_;(case hd => rfl);(case hg => rfl);(case hr => first | (go_simp;done) | (go_simp;rfl));(case hp => exact Reps.none _ _);intro v5 w5 ho hb hg_ hnew_;have n0:=Aside0.mk ho;have n1:=Aside0.mk (Kd.C_below HR0.out hb);clear HR0;have n2:=Aside0.mk hb;clear HB ho hb hg_ hnew_;have HB:=n2;have HO:=n0;have HR0:=n1;clear n0 n1 n2) | ((with_reducible refine gate_builtin (b:=.append) (xs:=#[.tmp 5,.tmp 6]) rfl ?_);at_builtin;refine Kd.R_append_rows k72 (w0:=w) w.heap.size rfl (.tmp 5) (.tmp 6) 22 72 (.agg #[(.string ⟨#[]⟩),(.string ⟨#[]⟩)]) 32 rfl Tryz.underlying22 info72' rfl (by decide) (by omega) v5 ([]:List S72) l0 (some ad) l0.length c0 (fun _ => True) (fun _ => False) rfl rfl ?aO ?aR (fun _ _ h => h) (fun _ h => h.elim) (fun _ _ => trivial) ?aB ?aS ?aL ?_;(case aO => exact skr);(case aR => exact skc);(case aB => exact bel);(case aS => exact (below_size bel));(case aL => have:=HBIG.out;simp only [List.length_nil];omega);intro v7 w7 ho hb hg hat;rw [List.nil_append] at ho;have n0:=Aside0.mk ho;have n1:=Aside0.mk hb;clear HB HO ho hb hg hat;have HB:=n1;have HO:=n0;clear n0 n1))
  go_ret
  exact ⟨_,rfl,skr,bel⟩
def api_Verse_23.f (l:List S72):Option (List S72):=if l.length ≤ 3000 then some l else none
theorem api_Verse_23.calls (A0:Option Addr) (c0:Nat) (l0 r:List S72) (w:World) (hr0:Kd.C k72 w A0 l0.length l0) (hc0:l0.length ≤ c0) (h:api_Verse_23.f l0 = some r) :
  Calls Tryz.prog 24 #[.slice A0 l0.length c0] w fun e w' => ∃ v0_:Value,e = .returned v0_ ∧ Kd.R k72 72 w' w.heap.size (fun _ => True) v0_ r ∧ Below w.heap.size w w':=by
 unfold api_Verse_23.f at h
 by_cases hl:l0.length ≤ 3000
 ·rw [if_pos hl] at h
  cases h
  exact clone23 A0 c0 l0 w hr0 hc0 hl
 ·rw [if_neg hl] at h
  cases h
theorem clone24 (A0:Option Addr) (c0:Nat) (l0:List ByteArray) (w:World) (hr0:Kd.C Kd.string w A0 l0.length l0) (hc0:l0.length ≤ c0) (hbig:l0.length ≤ 3000) :
  Calls Tryz.prog 25 #[.slice A0 l0.length c0] w fun e w' => ∃ v0_:Value,e = .returned v0_ ∧ Kd.R Kd.string 9 w' w.heap.size (fun _ => True) v0_ l0 ∧ Below w.heap.size w w':=by
 have HR0:=Aside0.mk hr0
 have HBIG:=Aside0.mk hbig
 clear hr0 hbig
 have HB:=Aside0.mk (Below.refl w.heap.size w)
 have hnil:∀ W,(binOp .eql 23 (.slice A0 l0.length c0) (.slice none 0 0)).run Tryz.prog W = .ok (.bool A0.isNone) W:=fun W => nilS W _ _ _ Tryz.underlying23
 cases A0 with
 | none =>
  have hn:l0.length = 0:=by
   rcases Nat.eq_zero_or_pos l0.length with h | h
   ·exact h
   ·obtain ⟨_,e0,_⟩:=HR0.out.2.2 h
    cases e0
  have HN:=Aside0.mk hn
  clear hn
  go_enter Tryz.func25,Tryz.ntmps25
  go_wp2
  go_ret
  have hl:l0 = []:=List.length_eq_zero_iff.1 HN.out
  subst hl
  exact ⟨_,rfl,Kd.R_nil _ _ _ _ _,bel⟩
 | some ad =>
  go_enter Tryz.func25,Tryz.ntmps25
  go_wp2_with (first | ((with_reducible refine gate_dst (N:=5) rfl ?_);refine Kd.R_lit Kd.string (w0:=w) w.heap.size 9 ?hg (N:=5) ?hd (xs:=([]:List ByteArray)) (inner:=[]) (ok:=fun _ => True) (okp:=fun _ => True) ?hr ?hp (fun _ hk => hk) trivial HB.out (Nat.le_refl _) (by simp) ?_;(case hd => rfl);(case hg => rfl);(case hr => first | (go_simp;done) | (go_simp;rfl));(case hp => exact Reps.none _ _);intro v5 w5 ho hb hg_ hnew_;have n0:=Aside0.mk ho;have n1:=Aside0.mk (Kd.C_below HR0.out hb);clear HR0;have n2:=Aside0.mk hb;clear HB ho hb hg_ hnew_;have HB:=n2;have HO:=n0;have HR0:=n1;clear n0 n1 n2) | ((with_reducible refine gate_builtin (b:=.append) (xs:=#[.tmp 5,.tmp 6]) rfl ?_);at_builtin;refine Kd.R_append_rows Kd.string (w0:=w) w.heap.size rfl (.tmp 5) (.tmp 6) 23 9 (.string ⟨#[]⟩) 16 rfl Tryz.underlying23 info9' rfl (by decide) (by omega) v5 ([]:List ByteArray) l0 (some ad) l0.length c0 (fun _ => True) (fun _ => False) rfl rfl ?aO ?aR (fun _ _ h => h) (fun _ h => h.elim) (fun _ _ => trivial) ?aB ?aS ?aL ?_;(case aO => exact skr);(case aR => exact skc);(case aB => exact bel);(case aS => exact (below_size bel));(case aL => have:=HBIG.out;simp only [List.length_nil];omega);intro v7 w7 ho hb hg hat;rw [List.nil_append] at ho;have n0:=Aside0.mk ho;have n1:=Aside0.mk hb;clear HB HO ho hb hg hat;have HB:=n1;have HO:=n0;clear n0 n1))
  go_ret
  exact ⟨_,rfl,skr,bel⟩
def slices_Clone_string_string.f (l:List ByteArray):Option (List ByteArray):=if l.length ≤ 3000 then some l else none
theorem slices_Clone_string_string.calls (A0:Option Addr) (c0:Nat) (l0 r:List ByteArray) (w:World) (hr0:Kd.C Kd.string w A0 l0.length l0) (hc0:l0.length ≤ c0) (h:slices_Clone_string_string.f l0 = some r) :
  Calls Tryz.prog 25 #[.slice A0 l0.length c0] w fun e w' => ∃ v0_:Value,e = .returned v0_ ∧ Kd.R Kd.string 9 w' w.heap.size (fun _ => True) v0_ r ∧ Below w.heap.size w w':=by
 unfold slices_Clone_string_string.f at h
 by_cases hl:l0.length ≤ 3000
 ·rw [if_pos hl] at h
  cases h
  exact clone24 A0 c0 l0 w hr0 hc0 hl
 ·rw [if_neg hl] at h
  cases h
theorem clone25 (A0:Option Addr) (c0:Nat) (l0:List Int) (w:World) (hr0:Kd.C (Kd.int .i64) w A0 l0.length l0) (hc0:l0.length ≤ c0) (hbig:l0.length ≤ 3000) :
  Calls Tryz.prog 26 #[.slice A0 l0.length c0] w fun e w' => ∃ v0_:Value,e = .returned v0_ ∧ Kd.R (Kd.int .i64) 3 w' w.heap.size (fun _ => True) v0_ l0 ∧ Below w.heap.size w w':=by
 have HR0:=Aside0.mk hr0
 have HBIG:=Aside0.mk hbig
 clear hr0 hbig
 have HB:=Aside0.mk (Below.refl w.heap.size w)
 have hnil:∀ W,(binOp .eql 24 (.slice A0 l0.length c0) (.slice none 0 0)).run Tryz.prog W = .ok (.bool A0.isNone) W:=fun W => nilS W _ _ _ Tryz.underlying24
 cases A0 with
 | none =>
  have hn:l0.length = 0:=by
   rcases Nat.eq_zero_or_pos l0.length with h | h
   ·exact h
   ·obtain ⟨_,e0,_⟩:=HR0.out.2.2 h
    cases e0
  have HN:=Aside0.mk hn
  clear hn
  go_enter Tryz.func26,Tryz.ntmps26
  go_wp2
  go_ret
  have hl:l0 = []:=List.length_eq_zero_iff.1 HN.out
  subst hl
  exact ⟨_,rfl,Kd.R_nil _ _ _ _ _,bel⟩
 | some ad =>
  go_enter Tryz.func26,Tryz.ntmps26
  go_wp2_with (first | ((with_reducible refine gate_dst (N:=5) rfl ?_);refine Kd.R_lit (Kd.int .i64) (w0:=w) w.heap.size 3 ?hg (N:=5) ?hd (xs:=([]:List Int)) (inner:=[]) (ok:=fun _ => True) (okp:=fun _ => True) ?hr ?hp (fun _ hk => hk) trivial HB.out (Nat.le_refl _) (by simp) ?_;(case hd => rfl);(case hg => rfl);(case hr => first | (go_simp;done) | (go_simp;rfl));(case hp => exact Reps.none _ _);intro v5 w5 ho hb hg_ hnew_;have n0:=Aside0.mk ho;have n1:=Aside0.mk (Kd.C_below HR0.out hb);clear HR0;have n2:=Aside0.mk hb;clear HB ho hb hg_ hnew_;have HB:=n2;have HO:=n0;have HR0:=n1;clear n0 n1 n2) | ((with_reducible refine gate_builtin (b:=.append) (xs:=#[.tmp 5,.tmp 6]) rfl ?_);at_builtin;refine Kd.R_append_rows (Kd.int .i64) (w0:=w) w.heap.size rfl (.tmp 5) (.tmp 6) 24 3 (.int .i64 0) 8 rfl Tryz.underlying24 info3' rfl (by decide) (by omega) v5 ([]:List Int) l0 (some ad) l0.length c0 (fun _ => True) (fun _ => False) rfl rfl ?aO ?aR (fun _ _ h => h) (fun _ h => h.elim) (fun _ _ => trivial) ?aB ?aS ?aL ?_;(case aO => exact skr);(case aR => exact skc);(case aB => exact bel);(case aS => exact (below_size bel));(case aL => have:=HBIG.out;simp only [List.length_nil];omega);intro v7 w7 ho hb hg hat;rw [List.nil_append] at ho;have n0:=Aside0.mk ho;have n1:=Aside0.mk hb;clear HB HO ho hb hg hat;have HB:=n1;have HO:=n0;clear n0 n1))
  go_ret
  exact ⟨_,rfl,skr,bel⟩
def slices_Clone_int_int.f (l:List Int):Option (List Int):=if l.length ≤ 3000 then some l else none
theorem slices_Clone_int_int.calls (A0:Option Addr) (c0:Nat) (l0 r:List Int) (w:World) (hr0:Kd.C (Kd.int .i64) w A0 l0.length l0) (hc0:l0.length ≤ c0) (h:slices_Clone_int_int.f l0 = some r) :
  Calls Tryz.prog 26 #[.slice A0 l0.length c0] w fun e w' => ∃ v0_:Value,e = .returned v0_ ∧ Kd.R (Kd.int .i64) 3 w' w.heap.size (fun _ => True) v0_ r ∧ Below w.heap.size w w':=by
 unfold slices_Clone_int_int.f at h
 by_cases hl:l0.length ≤ 3000
 ·rw [if_pos hl] at h
  cases h
  exact clone25 A0 c0 l0 w hr0 hc0 hl
 ·rw [if_neg hl] at h
  cases h
def big (n:Int):Bool:=decide (1000000 < n)
set_option maxHeartbeats 1000000 in
theorem pred110 (r:Int) (w:World):Calls Tryz.prog 112 #[.int .i64 r] w fun e w' => e = .returned (.bool (big r)) ∧ Drawn0 w w':=by
 obtain ⟨b,hb⟩:∃ b:Bool,decide (1000000 < r) = b:=⟨_,rfl⟩
 unfold big
 rw [hb]
 go_enter Tryz.func112,Tryz.ntmps112
 go_wp2
 go_ret
 exact ⟨rs,drw⟩
theorem any_hit {p:Int → Bool} {l:List Int} {k:Nat} (hk:k < l.length) (h:p (rd l (k:Int)) = true):l.any p = true:=by
 rw [List.any_eq_true]
 refine ⟨l[k],List.getElem_mem hk,?_⟩
 have:rd l (k:Int) = l[k]:=by simp [rd,List.getD_eq_getElem?_getD,hk]
 rw [← this];exact h
theorem any_miss {p:Int → Bool} {l:List Int} (h:∀ j:Nat,j < l.length → p (rd l (j:Int)) = false):l.any p = false:=by
 rw [List.any_eq_false]
 intro x hx
 obtain ⟨j,hj,rfl⟩:=List.getElem_of_mem hx
 have:=h j hj
 have e:rd l (j:Int) = l[j]:=by simp [rd,List.getD_eq_getElem?_getD,hj]
 rw [e] at this
 simp [this]
set_option maxHeartbeats 4000000 in
theorem index192 (A0:Option Addr) (c0:Nat) (l0:List Int) (w:World) (hr0:Kd.C (Kd.int .i64) w A0 l0.length l0) (hbig:l0.length ≤ 9223372036854775807) :
  Calls Tryz.prog 192 #[.slice A0 l0.length c0,.func (.func 112) #[] #[]] w fun e w' => (∃ k:Int,e = .returned (.int .i64 k) ∧ decide (0 ≤ k) = l0.any big) ∧ Drawn0 w w':=by
 have HR0:=Aside0.mk hr0
 have HP:=Aside0.mk (fun (r:Int) (m:Nat) => pred110 r (w.drewN m))
 have HBIG:=Aside0.mk hbig
 clear hr0
 have eg:∀ args w,(callFunc 112 args).run Tryz.prog w = .ok (.enter 112 args) w:=enters_ Tryz.func112 (by kernel_rfl) rfl
 go_enter Tryz.func192,Tryz.ntmps192
 go_wp2
 go_loopg [5,8] l0.length (fun gg _ s8 wr => ∃ kk:Nat,kk ≤ l0.length ∧ l0.length - kk ≤ gg ∧ s8 = .int .i64 kk ∧ Aside0 (Drawn0 w wr) ∧ Aside0 (∀ j:Nat,j < kk → big (rd l0 (j:Int)) = false))
 case atStart => exact ⟨0,Nat.zero_le _,by omega,rfl,⟨drw⟩,⟨fun j hj => absurd hj (Nat.not_lt_zero _)⟩⟩
 case round =>
  obtain ⟨kk,hkk,hg,rfl,BW,A⟩:=hrel
  obtain ⟨m,hm⟩:=BW.out.out
  by_cases hlt:kk < l0.length
  ·have hltz:(kk:Int) < (l0.length:Int):=by omega
   have p1:0 ≤ (kk:Int):=by omega
   obtain ⟨ad,e0,hx⟩:=Kd.at_int HR0.out (kk:Int) p1 hltz
   cases e0
   rw [Int.toNat_natCast] at hx
   have hcall:=HP.out (rd l0 (kk:Int)) m
   rw [← hm] at hcall
   replace hx:wr.cell? (ad.add kk) = some (Value.int IntKind.i64 (rd l0 (kk:Int))):=by rw [hm];exact hx
   have hh:=any_hit (p:=big) hlt
   generalize hy:rd l0 (kk:Int) = y at hx hcall hh
   have B:=Aside0.mk hy
   clear hy
   have hh':=Aside0.mk hh
   clear hh hm
   cases hq:big y with
   | true =>
    rw [hq] at hcall
    go_wp2_with (go_at_call 112;refine hcall.mono ?_;rintro e w' ⟨rfl,⟨nd,rfl⟩⟩)
    go_ret
    refine ⟨⟨_,rfl,?_⟩,?_⟩
    ·rw [hh'.out hq];exact decide_eq_true (by omega)
    ·exact BW.out.step _
   | false =>
    rw [hq] at hcall
    go_wp2_with (go_at_call 112;refine hcall.mono ?_;rintro e w' ⟨rfl,⟨nd,rfl⟩⟩)
    go_roundg (l0.length - (kk + 1))
    case measure => omega
    case rel =>
     refine ⟨kk + 1,by omega,by omega,by go_num,⟨BW.out.step _⟩,⟨fun j hj => ?_⟩⟩
     by_cases e:j = kk
     ·subst e
      rw [B.out];exact hq
     ·exact A.out j (by omega)
  ·have hltz:¬ (kk:Int) < (l0.length:Int):=by omega
   have hk:kk = l0.length:=by omega
   clear hm
   go_wp2
   go_ret
   refine ⟨⟨_,rfl,?_⟩,BW.out⟩
   rw [any_miss (fun j hj => A.out j (by omega))]
   rfl
set_option maxHeartbeats 1000000 in
theorem contains109 (A0:Option Addr) (c0:Nat) (l0:List Int) (w:World) (hr0:Kd.C (Kd.int .i64) w A0 l0.length l0) (hbig:l0.length ≤ 9223372036854775807) :
  Calls Tryz.prog 111 #[.slice A0 l0.length c0,.func (.func 112) #[] #[]] w fun e w' => e = .returned (.bool (l0.any big)) ∧ Drawn0 w w':=by
 have hcall:=index192 A0 c0 l0 w hr0 hbig
 clear hr0 hbig
 generalize l0.any big = r at hcall ⊢
 go_enter Tryz.func111,Tryz.ntmps111
 go_wp2_with (go_at_call 192;refine hcall.mono ?_;rintro e w' ⟨⟨k,rfl,hk⟩,⟨nd,rfl⟩⟩)
 go_ret
 exact ⟨by first | rfl | (rw [hk];rfl),drw⟩
def tally_large.f (l0_0:List ByteArray) (l0_1:List Int):Option Bool:=if l0_1.length ≤ 9223372036854775807 then some (decide ((2000:Int) < (l0_0.length:Int)) || l0_1.any big) else none
set_option maxHeartbeats 8000000 in
set_option maxRecDepth 100000 in
theorem tally_large.calls (A0_0:Option Addr) (c0_0:Nat) (l0_0:List ByteArray) (A0_1:Option Addr) (c0_1:Nat) (l0_1:List Int) (r:Bool) (w:World) (hr0_0:Kd.C Kd.string w A0_0 l0_0.length l0_0) (hc0_0:l0_0.length ≤ c0_0) (hr0_1:Kd.C (Kd.int .i64) w A0_1 l0_1.length l0_1) (hc0_1:l0_1.length ≤ c0_1) (h:tally_large.f l0_0 l0_1 = some r) :
  Calls Tryz.prog 51 #[.agg #[.slice A0_0 l0_0.length c0_0,.slice A0_1 l0_1.length c0_1]] w fun e w' => e = .returned (.bool r) ∧ Below w.heap.size w w':=by
 have hu26:=Tryz.underlying26
 unfold tally_large.f at h
 by_cases hl:l0_1.length ≤ 9223372036854775807
 ·rw [if_pos hl] at h
  have HR0_1:=Aside0.mk hr0_1
  have HB:=Aside0.mk (Below.refl w.heap.size w)
  have HL:=Aside0.mk hl
  have H:=Aside0.mk (Option.some.inj h)
  clear hr0_0 hr0_1 h hl
  have hcall:=Aside0.mk (fun (W:World) (hW:Kd.C (Kd.int .i64) W A0_1 l0_1.length l0_1) => contains109 A0_1 c0_1 l0_1 W hW HL.out)
  cases hb:decide ((2000:Int) < (l0_0.length:Int)) with
  | true =>
   rw [hb] at H
   go_enter Tryz.func51,Tryz.ntmps51
   go_wp2_with (first | ((with_reducible refine gate_dst (N:=1) rfl ?_);refine box_event ?hg (N:=1) ?hd (cs:=#[.slice A0_0 l0_0.length c0_0,.slice A0_1 l0_1.length c0_1]) (t:=26) ?hr ?_;(case hd => rfl);(case hg => rfl);(case hr => first | (go_simp;done) | (go_simp;rfl));intro g1 hg w4 hbox hb2;have n0_:=Aside0.mk (below_step bel hb2);have n1_:=Aside0.mk hbox;clear HB;have HB:=n0_;have BK:=n1_;clear n0_ n1_ hb2 hbox hg;have hcz0:w4.cell? ⟨g1,0,none⟩ = some (.slice A0_0 l0_0.length c0_0):=(blk_cell BK.out 0).trans rfl;have hcz1:w4.cell? ⟨g1,1,none⟩ = some (.slice A0_1 l0_1.length c0_1):=(blk_cell BK.out 1).trans rfl))
   go_ret
   exact ⟨by rw [← H.out];rfl,bel⟩
  | false =>
   rw [hb,Bool.false_or] at H
   go_enter Tryz.func51,Tryz.ntmps51
   go_wp2_with (first | ((with_reducible refine gate_dst (N:=1) rfl ?_);refine box_event ?hg (N:=1) ?hd (cs:=#[.slice A0_0 l0_0.length c0_0,.slice A0_1 l0_1.length c0_1]) (t:=26) ?hr ?_;(case hd => rfl);(case hg => rfl);(case hr => first | (go_simp;done) | (go_simp;rfl));intro g1 hg w4 hbox hb2;have n0_:=Aside0.mk (below_step bel hb2);have n1_:=Aside0.mk hbox;clear HB;have HB:=n0_;have BK:=n1_;clear n0_ n1_ hb2 hbox hg;have hcz0:w4.cell? ⟨g1,0,none⟩ = some (.slice A0_0 l0_0.length c0_0):=(blk_cell BK.out 0).trans rfl;have hcz1:w4.cell? ⟨g1,1,none⟩ = some (.slice A0_1 l0_1.length c0_1):=(blk_cell BK.out 1).trans rfl) | (go_at_call 111;refine (hcall.out _ rdc).mono ?_;rintro e w' ⟨rfl,⟨nd,rfl⟩⟩))
   go_ret
   exact ⟨by rw [← H.out];rfl,bel⟩
 ·rw [if_neg hl] at h
  cases h
end Go.Proofs.YtnbcnoabbdegpaaGreatDoor.V
