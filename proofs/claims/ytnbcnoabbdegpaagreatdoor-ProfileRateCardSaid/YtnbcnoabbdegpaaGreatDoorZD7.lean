/- A part of the proof of the tied card of ProfileRate (chapter 53): the law returns true whatever the input. -/
import Derived.Test.YtnbcnoabbdegpaaGreatDoorZU1
import Derived.Test.YtnbcnoabbdegpaaGreatDoorZM
import Derived.Test.YtnbcnoabbdegpaaGreatDoorZD4
import Derived.Test.YtnbcnoabbdegpaaGreatDoorZS
import Derived.Test.YtnbcnoabbdegpaaGreatDoorZU4
set_option linter.unusedVariables false
set_option linter.unusedSimpArgs false
namespace Go.Proofs.YtnbcnoabbdegpaaGreatDoor.V
open Go.RowKit Go.Proofs.YtnbcnoabbdegpaaGreatDoorW.PrintWords Go.Proofs.YtnbcnoabbdegpaaGreatDoorW.PrintLast Go.Proofs.YtnbcnoabbdegpaaGreatDoorW.PrintMore
attribute [local go_sem] max2_int min2_int max_two min_two
set_option linter.unusedVariables false
set_option linter.unusedSimpArgs false
set_option maxHeartbeats 8000000
set_option maxRecDepth 100000
theorem nan_slices (a:ByteArray) (w:World):Calls Tryz.prog 118 #[.string a] w fun e w' => e = .returned (.bool false) ∧ Drawn0 w w':=by
 have h:(a.toList != a.toList) = false:=bne_self_eq_false _
 go_enter Tryz.func118,Tryz.ntmps118
 go_wp2
 go_ret
 exact ⟨by first | rfl | simp,drw⟩
theorem bl_trans {x y z:List UInt8} (h:Op.bytesLess x y = true) (h2:Op.bytesLess y z = true):Op.bytesLess x z = true:=by
 rw [P.bl_lt'] at *
 exact decide_eq_true (PM.lt_trans (of_decide_eq_true h) (of_decide_eq_true h2))
theorem binsearch.calls (A:Option Addr) (c:Nat) (l:List ByteArray) (key:ByteArray) (w:World) (hr:Kd.C Kd.string w A l.length l) (hl:l.length ≤ 1000000) (hasc:∀ i j:Nat,i < j → j < l.length → Op.bytesLess (rdOf ByteArray.empty l (i:Int)).toList (rdOf ByteArray.empty l (j:Int)).toList = true) :
  Calls Tryz.prog 54 #[.slice A l.length c,.string key] w fun e w' => ∃ (i:Nat) (b:Bool),e = .returned (.tuple #[.int .i64 (i:Int),.bool b]) ∧ i ≤ l.length ∧ (∀ m:Nat,m < i → Op.bytesLess (rdOf ByteArray.empty l (m:Int)).toList key.toList = true) ∧ (∀ m:Nat,i ≤ m → m < l.length → Op.bytesLess (rdOf ByteArray.empty l (m:Int)).toList key.toList = false) ∧ (b = true ↔ (i < l.length ∧ (rdOf ByteArray.empty l (i:Int)).toList = key.toList)) ∧ Drawn0 w w':=by
 have HR:=am hr
 have HASC:=am hasc
 clear hr hasc
 go_enter Tryz.func54,Tryz.ntmps54
 go_wp2
 go_loopg [7,8] l.length (fun k v7 v8 w' => ∃ i j:Nat,v7 = .int .i64 (i:Int) ∧ v8 = .int .i64 (j:Int) ∧ i ≤ j ∧ j ≤ l.length ∧ j - i ≤ k ∧ Aside0 (∀ m:Nat,m < i → Op.bytesLess (rdOf ByteArray.empty l (m:Int)).toList key.toList = true) ∧ Aside0 (∀ m:Nat,j ≤ m → m < l.length → Op.bytesLess (rdOf ByteArray.empty l (m:Int)).toList key.toList = false) ∧ Drawn0 w w')
 case atStart => exact ⟨0,l.length,rfl,rfl,Nat.zero_le _,Nat.le_refl _,by omega,⟨fun m hm => by omega⟩,⟨fun m h1 h2 => by omega⟩,drw⟩
 case round =>
  obtain ⟨i,j,rfl,rfl,h1,h2,h3,LO,HI,nd,rfl⟩:=hrel
  by_cases hij:i < j
  ·obtain ⟨m,em⟩:∃ m,(i + j) / 2 = m:=⟨_,rfl⟩
   have hm1:i ≤ m:=by omega
   have hm2:m < j:=by omega
   have hml:m < l.length:=by omega
   obtain ⟨ad,e1,hx⟩:=Kd.at_string HR.out (m:Int) (by omega) (by omega)
   cases e1
   rw [Int.toNat_natCast] at hx
   go_wp2
   ·have h:=(show Op.bytesLess (rdOf ByteArray.empty l (m:Int)).toList key.toList = true by assumption)
    go_roundg (j - (m + 1))
    case measure => omega
    case rel =>
     refine ⟨m + 1,j,by go_num,rfl,by omega,h2,Nat.le_refl _,⟨fun q hq => ?_⟩,HI,drw⟩
     rcases Nat.lt_or_ge q m with hqm | hqm
     ·exact bl_trans (HASC.out q m hqm hml) h
     ·have e:q = m:=by omega
      rw [e];exact h
   ·have h:=(show Op.bytesLess (rdOf ByteArray.empty l (m:Int)).toList key.toList = false by assumption)
    go_roundg (m - i)
    case measure => omega
    case rel =>
     refine ⟨i,m,rfl,by rw [show ((i:Int) + (j:Int)) / 2 = (m:Int) by omega],hm1,by omega,Nat.le_refl _,LO,⟨fun q hq hql => ?_⟩,drw⟩
     rcases Nat.lt_or_ge m q with hqm | hqm
     ·cases hb:Op.bytesLess (rdOf ByteArray.empty l (q:Int)).toList key.toList with
      | false => rfl
      | true => rw [bl_trans (HASC.out m q hqm hql) hb] at h;cases h
     ·have e:q = m:=by omega
      rw [e];exact h
  ·have ej:j = i:=by omega
   subst ej
   by_cases hi:j < l.length
   ·obtain ⟨ad,e1,hx⟩:=Kd.at_string HR.out (j:Int) (by omega) (by omega)
    cases e1
    rw [Int.toNat_natCast] at hx
    have hE:=am (fun q:((rdOf ByteArray.empty l (j:Int)).toList == key.toList) = true => eq_of_beq q)
    have hN:=am (fun q:((rdOf ByteArray.empty l (j:Int)).toList == key.toList) = false => beq_eq_false_iff_ne.1 q)
    go_wp2_with (first
     | (go_at_call 118;refine (nan_slices _ _).mono ?_;rintro e w1 ⟨rfl,⟨nd,rfl⟩⟩))
    ·go_ret2
     exact ⟨j,true,rfl,h2,LO.out,HI.out,⟨fun _ => ⟨hi,by assumption⟩,fun _ => rfl⟩,drw⟩
    ·go_ret2
     exact ⟨j,false,by first | rfl | (simp;done) | (simp;assumption),h2,LO.out,HI.out,⟨fun q => (by cases q),fun q => absurd q.2 (by assumption)⟩,drw⟩
   ·go_wp2
    go_ret2
    exact ⟨j,false,rfl,h2,LO.out,HI.out,⟨fun q => (by cases q),fun q => absurd q.1 hi⟩,drw⟩
theorem tal_less {l:List ByteArray} {c:List Int} (h:P.TalOK l c) (i j:Nat) (hij:i < j) (hj:j < l.length):Op.bytesLess (rdOf ByteArray.empty l (i:Int)).toList (rdOf ByteArray.empty l (j:Int)).toList = true:=by
 rw [P.bl_lt']
 have ha:=P.tal_asc h l.length 0 (by omega)
 rw [List.drop_zero] at ha
 exact decide_eq_true (P.asc_lt h.1 ha i j hij hj)
theorem bl_irr (x:List UInt8):Op.bytesLess x x = false:=by rw [P.bl_lt'];exact decide_eq_false (PM.lt_irrefl x)
theorem get_hit {l:List ByteArray} {c:List Int} (h:P.TalOK l c) {key:ByteArray} {i:Nat} (hi:i < l.length) (e:(rdOf ByteArray.empty l (i:Int)).toList = key.toList):PM.get (P.pz l c) key.toList = some (rd c (i:Int)):=by
 have ha:=P.tal_asc h l.length 0 (by omega)
 rw [List.drop_zero] at ha
 refine PM.get_of_mem ha ?_
 have hd:=P.pz_at h.1 i hi
 rw [← e]
 exact List.mem_of_mem_drop (i:=i) (by rw [hd];exact List.mem_cons_self)
theorem get_miss {l:List ByteArray} {c:List Int} (h:P.TalOK l c) {key:ByteArray} {i:Nat} (lo:∀ m:Nat,m < i → Op.bytesLess (rdOf ByteArray.empty l (m:Int)).toList key.toList = true)
  (hi:∀ m:Nat,i ≤ m → m < l.length → Op.bytesLess (rdOf ByteArray.empty l (m:Int)).toList key.toList = false) (hn:¬ (i < l.length ∧ (rdOf ByteArray.empty l (i:Int)).toList = key.toList)):PM.get (P.pz l c) key.toList = none:=by
 cases hg:PM.get (P.pz l c) key.toList with
 | none => rfl
 | some n =>
  have hm:=PM.get_mem hg
  have hm2:key.toList ∈ (P.pz l c).map (·.1):=List.mem_map.2 ⟨_,hm,rfl⟩
  rw [P.pz_fst h.1] at hm2
  obtain ⟨x,hx,ex⟩:=List.mem_map.1 hm2
  obtain ⟨j,hj,rfl⟩:=List.getElem_of_mem hx
  have ej:rdOf ByteArray.empty l (j:Int) = l[j]:=by unfold rdOf;rw [Int.toNat_natCast];simp [List.getD_eq_getElem?_getD,hj]
  rw [← ej] at ex
  rcases Nat.lt_or_ge j i with c1 | c1
  ·have:=lo j c1
   rw [ex,bl_irr] at this
   cases this
  ·rcases Nat.lt_or_ge i j with c2 | c2
   ·have h1:=tal_less h i j c2 hj
    rw [ex,hi i (Nat.le_refl _) (by omega)] at h1
    cases h1
   ·have e:j = i:=by omega
    subst e
    exact absurd ⟨hj,ex⟩ hn
theorem find_hit {A:Option Addr} {c:Nat} {l:List ByteArray} {cs:List Int} {key:ByteArray} (ht:P.TalOK l cs) (hl:l.length ≤ 1000000) {i0:Nat} (h0:i0 < l.length) (e0:(rdOf ByteArray.empty l (i0:Int)).toList = key.toList) (W:World) (hr:Kd.C Kd.string W A l.length l) :
  Calls Tryz.prog 54 #[.slice A l.length c,.string key] W fun e w' => e = .returned (.tuple #[.int .i64 (i0:Int),.bool true]) ∧ Drawn0 W w':=by
 refine (binsearch.calls A c l key W hr hl (tal_less ht)).mono ?_
 rintro e w2 ⟨i,b,rfl,hi,lo,hi2,hb,hd⟩
 have ei:i = i0:=by
  rcases Nat.lt_trichotomy i i0 with h | h | h
  ·have h1:=tal_less ht i i0 h h0
   rw [e0,hi2 i (Nat.le_refl _) (by omega)] at h1
   cases h1
  ·exact h
  ·have h1:=lo i0 h
   rw [e0,bl_irr] at h1
   cases h1
 subst ei
 rw [hb.2 ⟨h0,e0⟩]
 exact ⟨rfl,hd⟩
theorem find_miss {A:Option Addr} {c:Nat} {l:List ByteArray} {cs:List Int} {key:ByteArray} (ht:P.TalOK l cs) (hl:l.length ≤ 1000000) (hn:¬ ∃ i:Nat,i < l.length ∧ (rdOf ByteArray.empty l (i:Int)).toList = key.toList) (W:World) (hr:Kd.C Kd.string W A l.length l) :
  Calls Tryz.prog 54 #[.slice A l.length c,.string key] W fun e w' => (∃ i:Nat,i ≤ l.length ∧ e = .returned (.tuple #[.int .i64 (i:Int),.bool false])) ∧ PM.get (P.pz l cs) key.toList = none ∧ Drawn0 W w':=by
 refine (binsearch.calls A c l key W hr hl (tal_less ht)).mono ?_
 rintro e w2 ⟨i,b,rfl,hi,lo,hi2,hb,hd⟩
 have hnb:¬ b = true:=fun q => hn ⟨i,hb.1 q⟩
 have eb:b = false:=by cases b <;> simp_all
 subst eb
 exact ⟨⟨i,hi,rfl⟩,get_miss ht lo hi2 (fun q => hn ⟨i,q⟩),hd⟩
theorem tally_Get.calls (A A2:Option Addr) (c c2:Nat) (l:List ByteArray) (cs:List Int) (key:ByteArray) (w:World) (hr:Kd.C Kd.string w A l.length l) (hr2:Kd.C (Kd.int .i64) w A2 cs.length cs) (ht:P.TalOK l cs) (hl:l.length ≤ 1000000) :
  Calls Tryz.prog 23 #[.agg #[.slice A l.length c,.slice A2 cs.length c2],.string key] w fun e w' => e = .returned (.int .i64 ((PM.get (P.pz l cs) key.toList).getD 0)) ∧ Below w.heap.size w w':=by
 have hu26:=Tryz.underlying26
 have HR:=am hr
 have HR2:=am hr2
 have HB:=am (Below.refl w.heap.size w)
 by_cases hex:∃ i:Nat,i < l.length ∧ (rdOf ByteArray.empty l (i:Int)).toList = key.toList
 ·obtain ⟨i,hi,e⟩:=hex
  have HS:=am (fun (W:World) (h:Kd.C Kd.string W A l.length l) => find_hit (c:=c) ht hl hi e W h)
  rw [get_hit ht hi e]
  have hic:i < cs.length:=by rw [← ht.1];exact hi
  obtain ⟨ad,e1,hx0⟩:=Kd.at_int hr2 (i:Int) (by omega) (by omega)
  cases e1
  rw [Int.toNat_natCast] at hx0
  have HX:=am hx0
  rw [Option.getD_some]
  generalize rd cs (i:Int) = r at *
  clear hr hr2 ht hx0 e hi
  go_enter Tryz.func23,Tryz.ntmps23
  go_wp2_with (first
   | ((with_reducible refine gate_dst (N:=2) rfl ?_);refine bx 2 #[.slice A l.length c,.slice (some ad) cs.length c2] 26 ?_;intro g1 w1 b1 hb;replace HB:=bst hb (h:=HB.out);have B1:=am b1;obtain ⟨⟨z0,z1⟩,f0,f1⟩:=cf2 b1;have hx:=oc1 HX;clear hb b1)
   | (go_at_call 54;refine (HS.out w1 (Kd.C_below HR.out HB.out)).mono ?_;rintro e w2 ⟨rfl,⟨nd,rfl⟩⟩))
  go_ret
  exact ⟨rfl,bel⟩
 ·have HS:=am (fun (W:World) (h:Kd.C Kd.string W A l.length l) => find_miss (c:=c) ht hl hex W h)
  have hg:PM.get (P.pz l cs) key.toList = none:=by
   cases hg:PM.get (P.pz l cs) key.toList with
   | none => rfl
   | some n =>
    have hm:=PM.get_mem hg
    have hm2:key.toList ∈ (P.pz l cs).map (·.1):=List.mem_map.2 ⟨_,hm,rfl⟩
    rw [P.pz_fst ht.1] at hm2
    obtain ⟨x,hx,ex⟩:=List.mem_map.1 hm2
    obtain ⟨j,hj,rfl⟩:=List.getElem_of_mem hx
    have ej:rdOf ByteArray.empty l (j:Int) = l[j]:=by unfold rdOf;rw [Int.toNat_natCast];simp [List.getD_eq_getElem?_getD,hj]
    exact absurd ⟨j,hj,by rw [ej];exact ex⟩ hex
  rw [hg]
  clear hr hr2 ht hex hg
  go_enter Tryz.func23,Tryz.ntmps23
  go_wp2_with (first
   | ((with_reducible refine gate_dst (N:=2) rfl ?_);refine bx 2 #[.slice A l.length c,.slice A2 cs.length c2] 26 ?_;intro g1 w1 b1 hb;replace HB:=bst hb (h:=HB.out);have B1:=am b1;obtain ⟨⟨z0,z1⟩,f0,f1⟩:=cf2 b1;clear hb b1)
   | (go_at_call 54;refine (HS.out w1 (Kd.C_below HR.out HB.out)).mono ?_;rintro e w2 ⟨⟨i,hi,rfl⟩,_,⟨nd,rfl⟩⟩))
  go_ret
  exact ⟨rfl,bel⟩
theorem mk0 {t e:TypeId} {z:Value} {bytes:Nat} (ht:Tryz.prog.underlying t = some (.slice e)) (hinfo:(Tryz.prog.info? e).map (fun i => (i.zero,i.size,i.bytes)) = some (some z,1,bytes)) (W:World) :
  (Instr.makeSlice t (.int .i64 0) (.int .i64 0)).run Tryz.prog W = .ok (.slice (some ⟨W.heap.size,0,none⟩) 0 0) (W.alloc (.cells #[] e (0,0))):=by
 obtain ⟨i0,hi,hzz⟩:=Option.map_eq_some_iff.1 hinfo
 simp only [Prod.mk.injEq] at hzz
 obtain ⟨hz0,hz1,hz2⟩:=hzz
 have hr:=run_make (P:=Tryz.prog) W t e i0 z ht hi hz0 .i64 .i64 0 0 (by omega) (by omega) (by rw [Int.mul_zero];omega) (by omega)
 rw [hz1,show madeCells z.cells ((0:Int).toNat * 1) = #[] by simp [madeCells]] at hr
 exact hr
section
variable {P:Program} {ops:Array Oper} {a:Act} {W w:World} {Q:Exit → Act → World → Prop} {S:World → Prop} {ds:List Nat} {md:Region.Mode} {T:Bool × List (List Nat × List Nat)} {fuel:Nat} {l l' li lj lk:Array Bool} {N:Tmp} {oi:Oper} {K:Act → World → Prop}
theorem kmk (hK:Shut (∀ a' w',S w' → (S w' → wpAnyLast P md ops Q S ds fuel l' a' w') → K a' w')) (e:TypeId)
  (h:∀ p w1,Below W.heap.size W w1 → S w1 ∧ (S w1 → wpAnyLast P md ops Q S ds fuel l' (a.put (some N) (.slice (some ⟨p,0,none⟩) 0 0)) w1)) (hN:oi.dst = some N:=by exact rfl) (hw:Region.wanted oi (yielded ops a.tmps) = true:=by rfl)
  (hrun:(execOp a.eval oi).run P W = .ok (.value (.slice (some ⟨W.heap.size,0,none⟩) 0 0)) (W.alloc (.cells #[] e (0,0))):=by first | (go_simp;done) | (go_simp;rfl)):if Region.wanted oi (yielded ops a.tmps) = true then Oper.wp P oi a W K Q else K (a.put N undef) W:=
 value_ hw hN hrun (hK _ _ (h W.heap.size _ (below_alloc (Below.refl _ _) _)).1 (h W.heap.size _ (below_alloc (Below.refl _ _) _)).2)
theorem thA (i j k:Nat) {N M L:Option Tmp} {oi oj ok:Oper}
  (h:∀ K:Act → World → Prop,Shut (∀ a' w',S w' → (S w' → wpAnyLast P md ops Q S ds fuel l' a' w') → K a' w') → if Region.wanted oi (yielded ops a.tmps) = true then Oper.wp P oi a w K Q else K (a.put N undef) w)
  (h2:∀ K:Act → World → Prop,Shut (∀ a' w',S w' → (S w' → wpAnyLast P md ops Q S ds fuel lj a' w') → K a' w') → if Region.wanted oj (yielded ops a.tmps) = true then Oper.wp P oj a w K Q else K (a.put M undef) w)
  (h3:∀ K:Act → World → Prop,Shut (∀ a' w',S w' → (S w' → wpAnyLast P md ops Q S ds fuel lk a' w') → K a' w') → if Region.wanted ok (yielded ops a.tmps) = true then Oper.wp P ok a w K Q else K (a.put L undef) w)
  (hi:ops[i]? = some oi:=by (simp only [List.getElem?_toArray,List.getElem?_cons_succ,List.getElem?_cons_zero];exact rfl)) (hj:ops[j]? = some oj:=by (simp only [List.getElem?_toArray,List.getElem?_cons_succ,List.getElem?_cons_zero];exact rfl)) (hk:ops[k]? = some ok:=by (simp only [List.getElem?_toArray,List.getElem?_cons_succ,List.getElem?_cons_zero];exact rfl))
  (hN:oi.dst = N:=by exact rfl) (hM:oj.dst = M:=by exact rfl) (hL:ok.dst = L:=by exact rfl)
  (hl:(l.toList.set i true).toArray = l':=by (simp only [List.set_cons_succ,List.set_cons_zero];exact rfl)) (hlj:(l.toList.set j true).toArray = lj:=by (simp only [List.set_cons_succ,List.set_cons_zero];exact rfl)) (hlk:(l.toList.set k true).toArray = lk:=by (simp only [List.set_cons_succ,List.set_cons_zero];exact rfl))
  (hT:rtab md ops = T:=by exact (Aside0.out (by assumption))) (hc:readyT T.2 l.toList = [i,j,k]:=by kernel_rfl) (hd:i ∉ ds:=by decide) (hd2:j ∉ ds:=by decide) (hd3:k ∉ ds:=by decide):wpAnyLast P md ops Q S ds (fuel + 1) l a w:=
 three_ l' lj lk hi hj hk hN hM hL (three_of hT (by subst hl hlj hlk;simp [hc])) hd hd2 hd3 h h2 h3
end
def RetT (w w':World) (e:Ending):Prop:=∃ A B,e = .returned (.agg #[.slice A 0 0,.slice B 0 0]) ∧ Below w.heap.size w w'
def T142_1:Bool × List (List Nat × List Nat):=(true,[([],[]),([0],[0]),([1],[1]),([2,2],[2]),([],[]),([4],[4]),([5],[5]),([6,6],[6]),([3,7],[3,7]),([],[]),([9,8,0,1,2,3,4,5,6,7,8,9],[8,9])])
def B142_1:List Nat:=[0,1,3,7,0,16,48,112,255,0,1023]
theorem t142_1:rtab .any (opsOf Tryz.f106 1) = T142_1:=by kernel_rfl
theorem w142_1:waitsOk T142_1.2 B142_1 = true:=by kernel_rfl
theorem tally_own_empty.calls (w:World) :
  Calls Tryz.prog 106 #[.agg #[.slice none 0 0,.slice none 0 0]] w fun e w' => RetT w w' e:=by
 have hu26:=Tryz.underlying26
 have hm1:=mk0 Tryz.underlying23 info9
 have hm2:=mk0 Tryz.underlying24 info3
 have HB:=am (Below.refl w.heap.size w)
 go_enter Tryz.func106,Tryz.ntmps106
 go_wp2_with (first
  | ((with_reducible refine gate_dst (N:=1) rfl ?_);refine bxe 1 #[.slice none 0 0,.slice none 0 0] 26 ?_;intro g1 eg w1 b1 hb;have B1:=am b1;replace HB:=bst hb (h:=HB.out);clear hb b1 eg)
  | ((with_reducible refine gate_dst (N:=2) rfl ?_);refine bxe 2 #[.slice none 0 0,.slice none 0 0] 26 ?_;intro g2 eg w2 b1 hb;have N12:=nel g1 eg (B1.out);have G2:Aside0 (w.heap.size ≤ g2):=szl eg (h:=HB.out);replace B1:=bbl g1 hb (h:=B1.out);have B2:=am b1;replace HB:=bst hb (h:=HB.out);clear hb b1 eg))
 refine stt 11 (fun w' => w'.cell? ⟨g1,0,none⟩ = some (.slice none 0 0) ∧ w'.cell? ⟨g1,1,none⟩ = some (.slice none 0 0)) [10] _ _ t142_1 w142_1 ⟨hc 0 B1.out,hc 1 B1.out⟩ fun w0 hb hS HT HW => ?_
 replace B1:=bbl g1 hb (h:=B1.out)
 replace B2:=bbl g2 hb (h:=B2.out)
 replace HB:=bst hb (h:=HB.out)
 clear hb
 refine pu 0 ?_
 refine tk 1 ?_
 refine pu 2 ?_
 refine pu 4 ?_
 refine tk 5 ?_
 refine pu 6 ?_
 refine join_ (σ:=Nat × Nat × Nat) 1 #[true,true,true,true,true,true,true,true,true,true,false] (fun s => [(7,.slice (some ⟨s.1,0,none⟩) 0 0),(11,.slice (some ⟨s.2.1,0,none⟩) 0 0),(12,.agg #[.slice (some ⟨s.1,0,none⟩) 0 0,.slice (some ⟨s.2.1,0,none⟩) 0 0]),(3,.pointer (some ⟨s.2.2,0,none⟩))]) (fun s w' => (w'.cell? ⟨g1,0,none⟩ = some (.slice none 0 0) ∧ w'.cell? ⟨g1,1,none⟩ = some (.slice none 0 0)) ∧ Aside0 (g1 ≠ s.2.2) ∧ Aside0 (g2 ≠ s.2.2) ∧ Aside0 (w.heap.size ≤ s.2.2) ∧ Aside0 (w'.heap[g1]? = some (.cells #[.slice none 0 0,.slice none 0 0] 26 (0,0))) ∧ Aside0 (w'.heap[g2]? = some (.cells #[.slice none 0 0,.slice none 0 0] 26 (0,0))) ∧ Aside0 (w'.heap[s.2.2]? = some (.cells #[.slice none 0 0,.slice none 0 0] 26 (0,0))) ∧ Aside0 (Below w.heap.size w w')) ?_ ?_
 ·clear hS B1 B2 HB
  rintro ⟨p,q,g3⟩ w4 ⟨hS,N13,N23,G3,B1,B2,B3,HB⟩
  refine nrp ?_
  replace N13:Aside0 (g1 ≠ g3):=N13
  replace N23:Aside0 (g2 ≠ g3):=N23
  replace G3:Aside0 (w.heap.size ≤ g3):=G3
  replace B3:Aside0 (w4.heap[g3]? = some (.cells #[.slice none 0 0,.slice none 0 0] 26 (0,0))):=B3
  obtain ⟨⟨y0,y1⟩,d0,d1⟩:=cf2 B3.out
  refine lst 10 ?_
  generalize hw5:(w4.setCell ⟨g3,0,none⟩ (.slice (some ⟨p,0,none⟩) 0 0)).setCell ⟨g3,1,none⟩ (.slice (some ⟨q,0,none⟩) 0 0) = w5
  have b3:=am (show w5.heap[g3]? = some (.cells #[.slice (some ⟨p,0,none⟩) 0 0,.slice (some ⟨q,0,none⟩) 0 0] 26 (0,0)) by rw [← hw5];exact set2 B3.out)
  have b1:=am (show w5.heap[g1]? = some (.cells #[.slice none 0 0,.slice none 0 0] 26 (0,0)) by rw [← hw5];exact far1 (far1 B1.out N13.out) N13.out)
  have b2:=am (show w5.heap[g2]? = some (.cells #[.slice none 0 0,.slice none 0 0] 26 (0,0)) by rw [← hw5];exact far1 (far1 B2.out N23.out) N23.out)
  have hb:=am (show Below w.heap.size w w5 by rw [← hw5];exact below_set (below_set HB.out G3.out) G3.out)
  clear B1 B2 B3 HB hS hw5 y0 y1 d0 d1 HT HW
  obtain ⟨⟨x0,x1⟩,k0,k1⟩:=cf2 b1.out
  obtain ⟨⟨y0,y1⟩,d0,d1⟩:=cf2 b2.out
  obtain ⟨⟨z0,z1⟩,f0,f1⟩:=cf2 b3.out
  have n1:=N23.out
  have n2:=N23.out.symm
  have k1':=fun W:World => run_copy_none (P:=Tryz.prog) W 23 23 3 9 (some ⟨p,0,none⟩) none 0 0 0 0 Tryz.underlying23 (by kernel_rfl) (by decide)
  have k2':=fun W:World => run_copy_none (P:=Tryz.prog) W 24 24 3 3 (some ⟨q,0,none⟩) none 0 0 0 0 Tryz.underlying24 (by kernel_rfl) (by decide)
  go_wp2
  refine bodyPost_ret (results_cell_row rfl _ _ g2 26 #[.slice (some ⟨p,0,none⟩) 0 0,.slice (some ⟨q,0,none⟩) 0 0] (0,0) _ rfl (set2 b2.out) Tryz.underlying26 rfl (by kernel_rfl)) rfl ?_
  exact ⟨_,_,rfl,below_set (below_set hb.out G2.out) G2.out⟩
 ·intro hCont
  refine thA 3 7 9 ?_ ?_ ?_
  ·intro K hK
   refine kmk hK 9 ?_
   intro p w3 hb
   replace B1:=bbl g1 hb (h:=B1.out)
   replace B2:=bbl g2 hb (h:=B2.out)
   replace HB:=bst hb (h:=HB.out)
   clear hb hS
   refine ⟨⟨hc 0 B1.out,hc 1 B1.out⟩,fun hS => nrm ?_⟩
   refine twA 7 9 ?_ ?_
   ·intro K hK
    refine kmk hK 3 ?_
    intro q w7 hb
    replace B1:=bbl g1 hb (h:=B1.out)
    replace B2:=bbl g2 hb (h:=B2.out)
    replace HB:=bst hb (h:=HB.out)
    clear hb hS
    refine ⟨⟨hc 0 B1.out,hc 1 B1.out⟩,fun hS => nrm ?_⟩
    refine pu 8 ?_
    refine onA 9 ?_
    intro K hK
    refine kbx hK #[.slice none 0 0,.slice none 0 0] 26 ?_
    intro g3 eg w9 b9 hb
    have N13:=nel g1 eg (B1.out)
    have N23:=nel g2 eg (B2.out)
    have G3:Aside0 (w.heap.size ≤ g3):=szl eg (h:=HB.out)
    replace B1:=bbl g1 hb (h:=B1.out)
    replace B2:=bbl g2 hb (h:=B2.out)
    have B3:=am b9
    replace HB:=bst hb (h:=HB.out)
    clear hb hS b9 eg
    refine ⟨⟨hc 0 B1.out,hc 1 B1.out⟩,fun hS => ?_⟩
    exact nrp (hCont (p,q,g3) _ ⟨hS,N13,N23,G3,B1,B2,B3,HB⟩)
   ·intro K hK
    refine kbx hK #[.slice none 0 0,.slice none 0 0] 26 ?_
    intro g3 eg w9 b9 hb
    have N13:=nel g1 eg (B1.out)
    have N23:=nel g2 eg (B2.out)
    have G3:Aside0 (w.heap.size ≤ g3):=szl eg (h:=HB.out)
    replace B1:=bbl g1 hb (h:=B1.out)
    replace B2:=bbl g2 hb (h:=B2.out)
    have B3:=am b9
    replace HB:=bst hb (h:=HB.out)
    clear hb hS b9 eg
    refine ⟨⟨hc 0 B1.out,hc 1 B1.out⟩,fun hS => nrm ?_⟩
    refine onA 7 ?_
    intro K hK
    refine kmk hK 3 ?_
    intro q w7 hb
    replace B1:=bbl g1 hb (h:=B1.out)
    replace B2:=bbl g2 hb (h:=B2.out)
    replace B3:=bbl g3 hb (h:=B3.out)
    replace HB:=bst hb (h:=HB.out)
    clear hb hS
    refine ⟨⟨hc 0 B1.out,hc 1 B1.out⟩,fun hS => nrm ?_⟩
    refine pu 8 ?_
    exact nrp (hCont (p,q,g3) _ ⟨hS,N13,N23,G3,B1,B2,B3,HB⟩)
  ·intro K hK
   refine kmk hK 3 ?_
   intro q w7 hb
   replace B1:=bbl g1 hb (h:=B1.out)
   replace B2:=bbl g2 hb (h:=B2.out)
   replace HB:=bst hb (h:=HB.out)
   clear hb hS
   refine ⟨⟨hc 0 B1.out,hc 1 B1.out⟩,fun hS => nrm ?_⟩
   refine twA 3 9 ?_ ?_
   ·intro K hK
    refine kmk hK 9 ?_
    intro p w3 hb
    replace B1:=bbl g1 hb (h:=B1.out)
    replace B2:=bbl g2 hb (h:=B2.out)
    replace HB:=bst hb (h:=HB.out)
    clear hb hS
    refine ⟨⟨hc 0 B1.out,hc 1 B1.out⟩,fun hS => nrm ?_⟩
    refine pu 8 ?_
    refine onA 9 ?_
    intro K hK
    refine kbx hK #[.slice none 0 0,.slice none 0 0] 26 ?_
    intro g3 eg w9 b9 hb
    have N13:=nel g1 eg (B1.out)
    have N23:=nel g2 eg (B2.out)
    have G3:Aside0 (w.heap.size ≤ g3):=szl eg (h:=HB.out)
    replace B1:=bbl g1 hb (h:=B1.out)
    replace B2:=bbl g2 hb (h:=B2.out)
    have B3:=am b9
    replace HB:=bst hb (h:=HB.out)
    clear hb hS b9 eg
    refine ⟨⟨hc 0 B1.out,hc 1 B1.out⟩,fun hS => ?_⟩
    exact nrp (hCont (p,q,g3) _ ⟨hS,N13,N23,G3,B1,B2,B3,HB⟩)
   ·intro K hK
    refine kbx hK #[.slice none 0 0,.slice none 0 0] 26 ?_
    intro g3 eg w9 b9 hb
    have N13:=nel g1 eg (B1.out)
    have N23:=nel g2 eg (B2.out)
    have G3:Aside0 (w.heap.size ≤ g3):=szl eg (h:=HB.out)
    replace B1:=bbl g1 hb (h:=B1.out)
    replace B2:=bbl g2 hb (h:=B2.out)
    have B3:=am b9
    replace HB:=bst hb (h:=HB.out)
    clear hb hS b9 eg
    refine ⟨⟨hc 0 B1.out,hc 1 B1.out⟩,fun hS => nrm ?_⟩
    refine onA 3 ?_
    intro K hK
    refine kmk hK 9 ?_
    intro p w3 hb
    replace B1:=bbl g1 hb (h:=B1.out)
    replace B2:=bbl g2 hb (h:=B2.out)
    replace B3:=bbl g3 hb (h:=B3.out)
    replace HB:=bst hb (h:=HB.out)
    clear hb hS
    refine ⟨⟨hc 0 B1.out,hc 1 B1.out⟩,fun hS => nrm ?_⟩
    refine pu 8 ?_
    exact nrp (hCont (p,q,g3) _ ⟨hS,N13,N23,G3,B1,B2,B3,HB⟩)
  ·intro K hK
   refine kbx hK #[.slice none 0 0,.slice none 0 0] 26 ?_
   intro g3 eg w9 b9 hb
   have N13:=nel g1 eg (B1.out)
   have N23:=nel g2 eg (B2.out)
   have G3:Aside0 (w.heap.size ≤ g3):=szl eg (h:=HB.out)
   replace B1:=bbl g1 hb (h:=B1.out)
   replace B2:=bbl g2 hb (h:=B2.out)
   have B3:=am b9
   replace HB:=bst hb (h:=HB.out)
   clear hb hS b9 eg
   refine ⟨⟨hc 0 B1.out,hc 1 B1.out⟩,fun hS => nrm ?_⟩
   refine twA 3 7 ?_ ?_
   ·intro K hK
    refine kmk hK 9 ?_
    intro p w3 hb
    replace B1:=bbl g1 hb (h:=B1.out)
    replace B2:=bbl g2 hb (h:=B2.out)
    replace B3:=bbl g3 hb (h:=B3.out)
    replace HB:=bst hb (h:=HB.out)
    clear hb hS
    refine ⟨⟨hc 0 B1.out,hc 1 B1.out⟩,fun hS => nrm ?_⟩
    refine onA 7 ?_
    intro K hK
    refine kmk hK 3 ?_
    intro q w7 hb
    replace B1:=bbl g1 hb (h:=B1.out)
    replace B2:=bbl g2 hb (h:=B2.out)
    replace B3:=bbl g3 hb (h:=B3.out)
    replace HB:=bst hb (h:=HB.out)
    clear hb hS
    refine ⟨⟨hc 0 B1.out,hc 1 B1.out⟩,fun hS => nrm ?_⟩
    refine pu 8 ?_
    exact nrp (hCont (p,q,g3) _ ⟨hS,N13,N23,G3,B1,B2,B3,HB⟩)
   ·intro K hK
    refine kmk hK 3 ?_
    intro q w7 hb
    replace B1:=bbl g1 hb (h:=B1.out)
    replace B2:=bbl g2 hb (h:=B2.out)
    replace B3:=bbl g3 hb (h:=B3.out)
    replace HB:=bst hb (h:=HB.out)
    clear hb hS
    refine ⟨⟨hc 0 B1.out,hc 1 B1.out⟩,fun hS => nrm ?_⟩
    refine onA 3 ?_
    intro K hK
    refine kmk hK 9 ?_
    intro p w3 hb
    replace B1:=bbl g1 hb (h:=B1.out)
    replace B2:=bbl g2 hb (h:=B2.out)
    replace B3:=bbl g3 hb (h:=B3.out)
    replace HB:=bst hb (h:=HB.out)
    clear hb hS
    refine ⟨⟨hc 0 B1.out,hc 1 B1.out⟩,fun hS => nrm ?_⟩
    refine pu 8 ?_
    exact nrp (hCont (p,q,g3) _ ⟨hS,N13,N23,G3,B1,B2,B3,HB⟩)
theorem info26:(Tryz.prog.info? 26).map (·.size) = some 2:=by kernel_rfl
section
variable {ops:Array Oper} {rest:List Oper} {o:Oper} {a:Act} {Q:Exit → Act → World → Prop} {W w w1:World}
theorem stB3 {g:Nat} {old1 old2 n1 n2:Value} (p:Tmp) (x:Operand) (B:Aside0 (W.heap[g]? = some (.cells #[old1,old2] 26 (0,0)))) (G:Aside0 (w.heap.size ≤ g))
  (h:∀ w1,w1.heap[g]? = some (.cells #[n1,n2] 26 (0,0)) → Below w.heap.size w w1 → KB W w1 (some g) → wpList Tryz.prog ops Q rest a w1)
  (hN:o.dst = none:=by rfl) (hgd:o.guard = none:=by rfl) (ho:o.op = .store 26 (.tmp p) x:=by rfl) (haddr:a.eval (.tmp p) = .pointer (some ⟨g,0,none⟩):=by rfl) (hx:a.eval x = .agg #[n1,n2]:=by rfl) (h1:n1.oneCell' = true:=by rfl) (h2:n2.oneCell' = true:=by rfl) (hc1:n1.cells.toList = [n1]:=by rfl) (hc2:n2.cells.toList = [n2]:=by rfl)
  (HB:Below w.heap.size w W:=by exact bel):wpList Tryz.prog ops Q (o :: rest) a W:=by
 have hcells:(Value.agg #[n1,n2]).cells.toList = [n1,n2]:=by simp [Value.cells]
 have hr:=run_store_run (P:=Tryz.prog) (w:=W) 26 (.agg #[n1,n2]) [n1,n2] B.out hcells info26 (by simp) (fun q hq => by
  simp only [List.mem_cons,List.mem_nil_iff,or_false] at hq
  rcases hq with rfl | rfl
  ·exact h1
  ·exact h2) (o:=0)
 have hb:(W.setCells g 0 [n1,n2]).heap[g]? = some (.cells #[n1,n2] 26 (0,0)):=set2 B.out
 have hB:Below w.heap.size w (W.setCells g 0 [n1,n2]):=below_set (below_set HB G.out) G.out
 refine wpList_plain hgd fun K hK => ?_
 unfold Oper.wp execOp
 simp only [ho,haddr,hx,Sem.run_bind,Sem.run_pure,Result.andThen_ok,hr]
 show K (a.put o.dst undef) _
 rw [hN]
 refine hK _ _ (h _ hb hB ⟨?_,fun k hk hn => ?_⟩)
 ·exact Nat.le_of_eq (by simp [World.setCells])
 ·have hne:k ≠ g:=fun e => hn (by rw [e])
  exact (Below.heap_setCell (W.setCell ⟨g,0,none⟩ n1) ⟨g,1,none⟩ n2 k hne).trans (Below.heap_setCell W ⟨g,0,none⟩ n1 k hne)
end
theorem Cnil {α:Type} (d:Kd α) (w:World) (A:Option Addr):d.C w A ([]:List α).length []:=⟨rfl,by simp,fun h => absurd h (Nat.lt_irrefl 0)⟩
theorem talNil:P.TalOK [] []:=P.talErr_zero [] [] rfl
theorem valid_nil (w:World):Calls Tryz.prog 48 #[.agg #[.slice none 0 0,.slice none 0 0]] w fun e w' => e = .returned (.int .i64 0) ∧ Below w.heap.size w w':=
 tally_Valid.calls 5000 none 0 [] none 0 [] 0 w (Cnil _ _ _) (Nat.le_refl _) (Cnil _ _ _) (Nat.le_refl _) (P.talO [] [] 5000 (Nat.le_refl _))
theorem large_nil (A B:Option Addr) (w:World):Calls Tryz.prog 51 #[.agg #[.slice A 0 0,.slice B 0 0]] w fun e w' => e = .returned (.bool false) ∧ Below w.heap.size w w':=
 tally_large.calls A 0 [] B 0 [] false w (Cnil _ _ _) (Nat.le_refl _) (Cnil _ _ _) (Nat.le_refl _) rfl
theorem find_nil (A:Option Addr) (key:ByteArray) (W:World):Calls Tryz.prog 54 #[.slice A 0 0,.string key] W fun e w' => e = .returned (.tuple #[.int .i64 0,.bool false]) ∧ Drawn0 W w':=
 (find_miss (A:=A) (c:=0) (key:=key) talNil (by decide) (fun ⟨i,hi,_⟩ => absurd hi (Nat.not_lt_zero _)) W (Cnil _ _ _)).mono fun e w' ⟨⟨i,hi,he⟩,_,hd⟩ => by
  have e0:i = 0:=Nat.le_zero.1 hi
  subst e0
  exact ⟨he,hd⟩
theorem given_nil (key:ByteArray) (w:World):Calls Tryz.prog 49 #[.agg #[.slice none 0 0,.slice none 0 0],.string key,.int .i64 0] w fun e w' => e = .returned (.int .i64 (P.keyErr key)) ∧ Below w.heap.size w w':=by
 have hu26:=Tryz.underlying26
 have HB:=am (Below.refl w.heap.size w)
 have HK:=am (fun (W:World) => tally_wrong.calls 1000 key (P.keyErr key) W (P.keyO key 1000 (Nat.le_refl _)))
 generalize P.keyErr key = r at *
 go_enter Tryz.func49,Tryz.ntmps49
 go_wp2_with (first
  | ((with_reducible refine gate_dst (N:=3) rfl ?_);refine bx 3 #[.slice none 0 0,.slice none 0 0] 26 ?_;intro g1 w1 b1 hb;replace HB:=bst hb (h:=HB.out);obtain ⟨⟨z0,z1⟩,f0,f1⟩:=cf2 b1;clear hb b1)
  | (go_at_call 48;refine (valid_nil w1).mono ?_;rintro e w2 ⟨rfl,hb⟩;replace HB:=bst hb (h:=HB.out);clear hb)
  | (go_at_call 105;refine (HK.out w2).mono ?_;rintro e w3 ⟨rfl,hb⟩;replace HB:=bst hb (h:=HB.out);clear hb))
 ·go_ret
  exact ⟨rfl,bel⟩
 ·have e:=bne_eq_false_iff_eq.1 (show (r != 0) = false by assumption)
  subst e
  go_ret
  exact ⟨rfl,bel⟩
theorem change_nil (key:ByteArray) (w:World):Calls Tryz.prog 50 #[.agg #[.slice none 0 0,.slice none 0 0],.string key,.int .i64 0] w fun e w' => RetT w w' e:=by
 have hu26:=Tryz.underlying26
 have HB:=am (Below.refl w.heap.size w)
 go_enter Tryz.func50,Tryz.ntmps50
 go_wp2_with (first
  | ((with_reducible refine gate_dst (N:=3) rfl ?_);refine bxe 3 #[.slice none 0 0,.slice none 0 0] 26 ?_;intro g3 eg wg3 b1 hb;have Gg3:Aside0 (w.heap.size ≤ g3):=szl eg (h:=HB.out);have Bg3:=am b1;replace HB:=bst hb (h:=HB.out);clear hb b1 eg;obtain ⟨⟨zg3,yg3⟩,fg3,kg3⟩:=cf2 Bg3.out)
  | ((with_reducible refine gate_dst (N:=6) rfl ?_);refine bxe 6 #[.slice none 0 0,.slice none 0 0] 26 ?_;intro g6 eg wg6 b1 hb;have Gg6:Aside0 (w.heap.size ≤ g6):=szl eg (h:=HB.out);have Ng3_g6:=nel g3 eg (Bg3.out);replace Bg3:=bbl g3 hb;have Bg6:=am b1;replace HB:=bst hb (h:=HB.out);clear hb b1 eg;clear zg3 yg3 fg3 kg3;obtain ⟨⟨zg3,yg3⟩,fg3,kg3⟩:=cf2 Bg3.out;obtain ⟨⟨zg6,yg6⟩,fg6,kg6⟩:=cf2 Bg6.out)
  | (go_at_call 106;(with_reducible refine (tally_own_empty.calls _).mono ?_);rintro e wc2 ⟨A1,A2,rfl,hb⟩;replace Bg3:=bbl g3 hb;replace Bg6:=bbl g6 hb;replace HB:=bst hb (h:=HB.out);clear hb;clear zg3 yg3 fg3 kg3 zg6 yg6 fg6 kg6;obtain ⟨⟨zg3,yg3⟩,fg3,kg3⟩:=cf2 Bg3.out;obtain ⟨⟨zg6,yg6⟩,fg6,kg6⟩:=cf2 Bg6.out)
  | ((with_reducible refine gate_dst (N:=7) rfl ?_);refine bxe 7 #[.slice none 0 0,.slice none 0 0] 26 ?_;intro g7 eg wg7 b1 hb;have Gg7:Aside0 (w.heap.size ≤ g7):=szl eg (h:=HB.out);have Ng3_g7:=nel g3 eg (Bg3.out);have Ng6_g7:=nel g6 eg (Bg6.out);replace Bg3:=bbl g3 hb;replace Bg6:=bbl g6 hb;have Bg7:=am b1;replace HB:=bst hb (h:=HB.out);clear hb b1 eg;clear zg3 yg3 fg3 kg3 zg6 yg6 fg6 kg6;obtain ⟨⟨zg3,yg3⟩,fg3,kg3⟩:=cf2 Bg3.out;obtain ⟨⟨zg6,yg6⟩,fg6,kg6⟩:=cf2 Bg6.out;obtain ⟨⟨zg7,yg7⟩,fg7,kg7⟩:=cf2 Bg7.out)
  | (refine gate_ (.store 26 (.tmp 7) (.tmp 11)) rfl ?_;refine stB3 7 _ Bg7 Gg7 ?_ (HB:=HB.out);intro ws4 b1 HB1 kb;replace Bg3:=kbB Bg3 (Ng3_g7.out) kb;replace Bg6:=kbB Bg6 (Ng6_g7.out) kb;replace Bg7:=am b1;replace HB:=am HB1;clear b1 HB1 kb;clear zg3 yg3 fg3 kg3 zg6 yg6 fg6 kg6 zg7 yg7 fg7 kg7;obtain ⟨⟨zg3,yg3⟩,fg3,kg3⟩:=cf2 Bg3.out;obtain ⟨⟨zg6,yg6⟩,fg6,kg6⟩:=cf2 Bg6.out;obtain ⟨⟨zg7,yg7⟩,fg7,kg7⟩:=cf2 Bg7.out)
  | (go_at_call 54;(with_reducible refine (find_nil A1 key _).mono ?_);rintro e wc5 ⟨rfl,hd⟩;have hb:=hd.below;clear hd;replace Bg3:=bbl g3 hb;replace Bg6:=bbl g6 hb;replace Bg7:=bbl g7 hb;replace HB:=bst hb (h:=HB.out);clear hb;clear zg3 yg3 fg3 kg3 zg6 yg6 fg6 kg6 zg7 yg7 fg7 kg7;obtain ⟨⟨zg3,yg3⟩,fg3,kg3⟩:=cf2 Bg3.out;obtain ⟨⟨zg6,yg6⟩,fg6,kg6⟩:=cf2 Bg6.out;obtain ⟨⟨zg7,yg7⟩,fg7,kg7⟩:=cf2 Bg7.out)
  | (refine gate_ (.store 26 (.tmp 6) (.tmp 23)) rfl ?_;refine stB3 6 _ Bg6 Gg6 ?_ (HB:=HB.out);intro ws6 b1 HB1 kb;replace Bg3:=kbB Bg3 (Ng3_g6.out) kb;replace Bg7:=kbB Bg7 (Ng6_g7.out.symm) kb;replace Bg6:=am b1;replace HB:=am HB1;clear b1 HB1 kb;clear zg3 yg3 fg3 kg3 zg6 yg6 fg6 kg6 zg7 yg7 fg7 kg7;obtain ⟨⟨zg3,yg3⟩,fg3,kg3⟩:=cf2 Bg3.out;obtain ⟨⟨zg6,yg6⟩,fg6,kg6⟩:=cf2 Bg6.out;obtain ⟨⟨zg7,yg7⟩,fg7,kg7⟩:=cf2 Bg7.out))
 refine bodyPost_ret (results_cell_row rfl _ _ g6 26 #[.slice A1 0 0,.slice A2 0 0] (0,0) _ rfl Bg6.out Tryz.underlying26 rfl (by kernel_rfl)) rfl ?_
 exact ⟨_,_,rfl,HB.out⟩
theorem add_nil (key:ByteArray) (w:World):Calls Tryz.prog 21 #[.agg #[.slice none 0 0,.slice none 0 0],.string key,.int .i64 0] w fun e w' => ∃ A B,e = .returned (.tuple #[.agg #[.slice A 0 0,.slice B 0 0],.int .i64 (P.keyErr key)]) ∧ Below w.heap.size w w':=by
 have hu26:=Tryz.underlying26
 have HB:=am (Below.refl w.heap.size w)
 have HG:=am (fun (W:World) => given_nil key W)
 by_cases h0:P.keyErr key = 0
 ·rw [h0] at HG ⊢
  clear h0
  go_enter Tryz.func21,Tryz.ntmps21
  go_wp2_with (first
   | ((with_reducible refine gate_dst (N:=3) rfl ?_);refine bxe 3 #[.slice none 0 0,.slice none 0 0] 26 ?_;intro g3 eg wg3 b1 hb;have Gg3:Aside0 (w.heap.size ≤ g3):=szl eg (h:=HB.out);have Bg3:=am b1;replace HB:=bst hb (h:=HB.out);clear hb b1 eg;obtain ⟨⟨zg3,yg3⟩,fg3,kg3⟩:=cf2 Bg3.out)
   | ((with_reducible refine gate_dst (N:=6) rfl ?_);refine bxe 6 #[.slice none 0 0,.slice none 0 0] 26 ?_;intro g6 eg wg6 b1 hb;have Gg6:Aside0 (w.heap.size ≤ g6):=szl eg (h:=HB.out);have Ng3_g6:=nel g3 eg (Bg3.out);replace Bg3:=bbl g3 hb;have Bg6:=am b1;replace HB:=bst hb (h:=HB.out);clear hb b1 eg;clear zg3 yg3 fg3 kg3;obtain ⟨⟨zg3,yg3⟩,fg3,kg3⟩:=cf2 Bg3.out;obtain ⟨⟨zg6,yg6⟩,fg6,kg6⟩:=cf2 Bg6.out)
   | (go_at_call 49;(with_reducible refine (HG.out _).mono ?_);rintro e wc2 ⟨rfl,hb⟩;replace Bg3:=bbl g3 hb;replace Bg6:=bbl g6 hb;replace HB:=bst hb (h:=HB.out);clear hb HG;clear zg3 yg3 fg3 kg3 zg6 yg6 fg6 kg6;obtain ⟨⟨zg3,yg3⟩,fg3,kg3⟩:=cf2 Bg3.out;obtain ⟨⟨zg6,yg6⟩,fg6,kg6⟩:=cf2 Bg6.out)
   | (go_at_call 50;(with_reducible refine (change_nil key _).mono ?_);rintro e wc3 ⟨A1,A2,rfl,hb⟩;replace Bg3:=bbl g3 hb;replace Bg6:=bbl g6 hb;replace HB:=bst hb (h:=HB.out);clear hb;clear zg3 yg3 fg3 kg3 zg6 yg6 fg6 kg6;obtain ⟨⟨zg3,yg3⟩,fg3,kg3⟩:=cf2 Bg3.out;obtain ⟨⟨zg6,yg6⟩,fg6,kg6⟩:=cf2 Bg6.out)
   | ((with_reducible refine gate_dst (N:=9) rfl ?_);refine bxe 9 #[.slice none 0 0,.slice none 0 0] 26 ?_;intro g9 eg wg9 b1 hb;have Gg9:Aside0 (w.heap.size ≤ g9):=szl eg (h:=HB.out);have Ng3_g9:=nel g3 eg (Bg3.out);have Ng6_g9:=nel g6 eg (Bg6.out);replace Bg3:=bbl g3 hb;replace Bg6:=bbl g6 hb;have Bg9:=am b1;replace HB:=bst hb (h:=HB.out);clear hb b1 eg;clear zg3 yg3 fg3 kg3 zg6 yg6 fg6 kg6;obtain ⟨⟨zg3,yg3⟩,fg3,kg3⟩:=cf2 Bg3.out;obtain ⟨⟨zg6,yg6⟩,fg6,kg6⟩:=cf2 Bg6.out;obtain ⟨⟨zg9,yg9⟩,fg9,kg9⟩:=cf2 Bg9.out)
   | (refine gate_ (.store 26 (.tmp 9) (.tmp 21)) rfl ?_;refine stB3 9 _ Bg9 Gg9 ?_ (HB:=HB.out);intro ws5 b1 HB1 kb;replace Bg3:=kbB Bg3 (Ng3_g9.out) kb;replace Bg6:=kbB Bg6 (Ng6_g9.out) kb;replace Bg9:=am b1;replace HB:=am HB1;clear b1 HB1 kb;clear zg3 yg3 fg3 kg3 zg6 yg6 fg6 kg6 zg9 yg9 fg9 kg9;obtain ⟨⟨zg3,yg3⟩,fg3,kg3⟩:=cf2 Bg3.out;obtain ⟨⟨zg6,yg6⟩,fg6,kg6⟩:=cf2 Bg6.out;obtain ⟨⟨zg9,yg9⟩,fg9,kg9⟩:=cf2 Bg9.out)
   | (go_at_call 51;(with_reducible refine (large_nil A1 A2 _).mono ?_);rintro e wc6 ⟨rfl,hb⟩;replace Bg3:=bbl g3 hb;replace Bg6:=bbl g6 hb;replace Bg9:=bbl g9 hb;replace HB:=bst hb (h:=HB.out);clear hb;clear zg3 yg3 fg3 kg3 zg6 yg6 fg6 kg6 zg9 yg9 fg9 kg9;obtain ⟨⟨zg3,yg3⟩,fg3,kg3⟩:=cf2 Bg3.out;obtain ⟨⟨zg6,yg6⟩,fg6,kg6⟩:=cf2 Bg6.out;obtain ⟨⟨zg9,yg9⟩,fg9,kg9⟩:=cf2 Bg9.out)
   | (refine gate_ (.store 26 (.tmp 6) (.tmp 25)) rfl ?_;refine stB3 6 _ Bg6 Gg6 ?_ (HB:=HB.out);intro ws7 b1 HB1 kb;replace Bg3:=kbB Bg3 (Ng3_g6.out) kb;replace Bg9:=kbB Bg9 (Ng6_g9.out.symm) kb;replace Bg6:=am b1;replace HB:=am HB1;clear b1 HB1 kb;clear zg3 yg3 fg3 kg3 zg6 yg6 fg6 kg6 zg9 yg9 fg9 kg9;obtain ⟨⟨zg3,yg3⟩,fg3,kg3⟩:=cf2 Bg3.out;obtain ⟨⟨zg6,yg6⟩,fg6,kg6⟩:=cf2 Bg6.out;obtain ⟨⟨zg9,yg9⟩,fg9,kg9⟩:=cf2 Bg9.out))
  refine bodyPost_ret (results_ct rfl _ _ g6 26 #[.slice A1 0 0,.slice A2 0 0] (0,0) _ rfl Bg6.out Tryz.underlying26 rfl (by kernel_rfl)) rfl ?_
  exact ⟨_,_,rfl,HB.out⟩
 ·have hb0:(P.keyErr key != 0) = true:=bne_iff_ne.2 h0
  clear h0
  generalize P.keyErr key = r at *
  go_enter Tryz.func21,Tryz.ntmps21
  go_wp2_with (first
   | ((with_reducible refine gate_dst (N:=3) rfl ?_);refine bxe 3 #[.slice none 0 0,.slice none 0 0] 26 ?_;intro g3 eg wg3 b1 hb;have Gg3:Aside0 (w.heap.size ≤ g3):=szl eg (h:=HB.out);have Bg3:=am b1;replace HB:=bst hb (h:=HB.out);clear hb b1 eg;obtain ⟨⟨zg3,yg3⟩,fg3,kg3⟩:=cf2 Bg3.out)
   | ((with_reducible refine gate_dst (N:=6) rfl ?_);refine bxe 6 #[.slice none 0 0,.slice none 0 0] 26 ?_;intro g6 eg wg6 b1 hb;have Gg6:Aside0 (w.heap.size ≤ g6):=szl eg (h:=HB.out);have Ng3_g6:=nel g3 eg (Bg3.out);replace Bg3:=bbl g3 hb;have Bg6:=am b1;replace HB:=bst hb (h:=HB.out);clear hb b1 eg;clear zg3 yg3 fg3 kg3;obtain ⟨⟨zg3,yg3⟩,fg3,kg3⟩:=cf2 Bg3.out;obtain ⟨⟨zg6,yg6⟩,fg6,kg6⟩:=cf2 Bg6.out)
   | (go_at_call 49;(with_reducible refine (HG.out _).mono ?_);rintro e wc2 ⟨rfl,hb⟩;replace Bg3:=bbl g3 hb;replace Bg6:=bbl g6 hb;replace HB:=bst hb (h:=HB.out);clear hb HG;clear zg3 yg3 fg3 kg3 zg6 yg6 fg6 kg6;obtain ⟨⟨zg3,yg3⟩,fg3,kg3⟩:=cf2 Bg3.out;obtain ⟨⟨zg6,yg6⟩,fg6,kg6⟩:=cf2 Bg6.out)
   | (refine gate_ (.store 26 (.tmp 6) (.tmp 16)) rfl ?_;refine stB3 6 _ Bg6 Gg6 ?_ (HB:=HB.out);intro ws3 b1 HB1 kb;replace Bg3:=kbB Bg3 (Ng3_g6.out) kb;replace Bg6:=am b1;replace HB:=am HB1;clear b1 HB1 kb;clear zg3 yg3 fg3 kg3 zg6 yg6 fg6 kg6;obtain ⟨⟨zg3,yg3⟩,fg3,kg3⟩:=cf2 Bg3.out;obtain ⟨⟨zg6,yg6⟩,fg6,kg6⟩:=cf2 Bg6.out))
  refine bodyPost_ret (results_ct rfl _ _ g6 26 #[.slice none 0 0,.slice none 0 0] (0,0) _ rfl Bg6.out Tryz.underlying26 rfl (by kernel_rfl)) rfl ?_
  exact ⟨_,_,rfl,HB.out⟩
end Go.Proofs.YtnbcnoabbdegpaaGreatDoor.V
