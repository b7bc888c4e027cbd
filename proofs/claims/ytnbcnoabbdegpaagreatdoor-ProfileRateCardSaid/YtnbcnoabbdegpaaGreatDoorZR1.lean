/- A part of the proof of the tied card of ProfileRate (chapter 53): the law returns true whatever the input. -/
import Derived.Test.YtnbcnoabbdegpaaGreatDoorZR0
import Derived.Test.YtnbcnoabbdegpaaGreatDoorZO
import Derived.Test.YtnbcnoabbdegpaaGreatDoorZL
import Derived.Test.YtnbcnoabbdegpaaGreatDoorTie
import Derived.SevenTiedAt
import Derived.ShutString
import Derived.ChangeOld
import Derived.Below
import Derived.SizedLaws
set_option linter.unusedVariables false
set_option linter.unusedSimpArgs false
namespace Go.Proofs.YtnbcnoabbdegpaaGreatDoor.R
open Go.ChangeShapes Go.WideShapes Go.ChangeAt Go.WideMaps Go.WideElems Go.RowKit
open Go.Proofs.YtnbcnoabbdegpaaGreatDoorW.PrintWords
set_option linter.unusedVariables false
set_option maxRecDepth 100000
theorem tab_of {W:World} (hs:W.ShapedOpen Tryz.prog) (h:laidMetH Tryz.prog laid3 W):EV.TabOK W:=by
 obtain ⟨sh,_⟩:=hs
 have s1:∃ cs,W.heap[0]? = some (.cells cs 462):=by
  have h1:=start1
  cases e:((begin Tryz.prog (fun _ _ => 0) default).world.heap[0]?).bind Obj.row? with
  | none => rw [e] at h1;cases h1
  | some x =>
   obtain ⟨z,t⟩:=x
   rw [e] at h1
   obtain rfl:t = 462:=by simpa using h1
   obtain ⟨cs,hc,_⟩:=sh 0 z 462 (by rw [globs];decide) e
   exact ⟨cs,hc⟩
 have s3:5 < W.heap.size:=by
  have h1:=start3
  cases e:((begin Tryz.prog (fun _ _ => 0) default).world.heap[5]?).bind Obj.row? with
  | none => rw [e] at h1;cases h1
  | some x =>
   obtain ⟨z,t⟩:=x
   obtain ⟨cs,hc,_⟩:=sh 5 z t (by rw [globs];decide) e
   exact (Array.getElem?_eq_some_iff.1 hc).1
 rw [MakeChecks.laidMetH_plain _ _ _ (by kernel_rfl)] at h
 obtain ⟨ps,⟨_,_,_,_,_,_,_,_,_,_,⟨_,_,_,_,_,_,_,_,_,_,⟨g,t,cs,f,p,q,hg,ht,hv,hd,_,_⟩,_⟩,_⟩,_,_⟩:=h
 obtain rfl:=Option.some.inj (gTab.symm.trans hg)
 obtain rfl:=Option.some.inj (tTab.symm.trans ht)
 obtain ⟨c1,hc1⟩:=s1
 have e1:c1 = cs:=by
  unfold World.var? at hv
  rw [gTab] at hv
  simp only [Option.bind_some,hc1,Option.some.injEq] at hv
  exact hv
 subst e1
 refine ⟨s3,c1,hc1,?_⟩
 obtain ⟨xs,m,_,hx,hlen,hn,hel⟩:=DataW.trod_array Tryz.underlying462 hd
 have cu:Tryz.prog.cellsOf 360 = 1:=by kernel_rfl
 have ca:Tryz.prog.cellsOf 462 = 20:=by kernel_rfl
 rw [ca] at hlen
 simp only [Prod.mk.injEq] at hx
 have hx:=hx.1
 have hxs:(Rows.laid_internal_strconv_uint64pow10:DataW Unit) = .agg (EV.pow10.map fun (n:Nat) => .lit (.int .u64 (n:Int))):=rfl
 rw [hxs] at hx
 injection hx with hx
 apply List.ext_getElem?
 intro i
 by_cases hi:i < 20
 ·have h1:=hel i hi
  rw [cu,Nat.mul_one] at h1
  have hi2:i < xs.length:=by omega
  rw [List.getElem?_eq_getElem hi2] at h1
  obtain ⟨n,e2,e3,_⟩:=DataW.trod_int Tryz.underlying360 h1
  have e4:(EV.pow10.map fun (n:Nat) => (.lit (.int .u64 (n:Int)):DataW Unit))[i]? = (xs.map (·.1))[i]?:=by rw [hx]
  rw [List.getElem?_map,List.getElem?_map,List.getElem?_eq_getElem hi2,e3] at e4
  have hp:i < EV.pow10.length:=hi
  rw [List.getElem?_eq_getElem hp] at e4
  simp only [Option.map_some,Option.some.injEq,DataW.lit.injEq,Lit.int.injEq,true_and] at e4
  have hcl:i < c1.toList.length:=by omega
  rw [List.drop_eq_getElem_cons hcl,List.take_succ_cons] at e2
  simp only [List.take_zero,List.cons.injEq,and_true] at e2
  rw [List.getElem?_eq_getElem hcl,e2,List.getElem?_map,List.getElem?_eq_getElem hp,Option.map_some,e4]
 ·rw [List.getElem?_eq_none (by omega),List.getElem?_eq_none (by rw [List.length_map];show 20 ≤ i;omega)]
open Go.Proofs.YtnbcnoabbdegpaaGreatDoor.V in
theorem profile_of {H:Type} {enc:TypeId × Value → H} {w:World} {base b0:Nat} {r:Reach} {spare:Nat → Bool} {held:Bool} {v:Value} {x:DataW H} {ps:List MemPlace} (hv:Value.okWide Tryz.prog w r b0 28 v) (hx:DataW.Trod enc Tryz.prog w base spare held 28 v x ps) :
  ∃ (a:ByteArray) (A1:Option Addr) (c1:Nat) (l1:List S72) (A2:Option Addr) (c2:Nat) (l2:List ByteArray) (A3:Option Addr) (c3:Nat) (l3:List Int),v = .agg #[.string a,.slice A1 l1.length c1,.slice A2 l2.length c2,.slice A3 l3.length c3] ∧
   Kd.C k72 w A1 l1.length l1 ∧ l1.length ≤ c1 ∧ Kd.C Kd.string w A2 l2.length l2 ∧ l2.length ≤ c2 ∧ Kd.C (Kd.int .i64) w A3 l3.length l3 ∧ l3.length ≤ c3:=by
 have OS:=O.Opens.string Tryz.underlying9 (by kernel_rfl)
 have OV:=O.Opens.struct Tryz.underlying72 (by kernel_rfl) (O.OpensF.more rfl OS (O.OpensF.one rfl OS)) (fun x:S72 => (x.f0,x.f1)) (fun p => ⟨p.1,p.2⟩) (fun _ => rfl)
 have OT:=O.Opens.struct Tryz.underlying26 (by kernel_rfl) (O.OpensF.more rfl (O.Opens.slice Tryz.underlying23 (by kernel_rfl) OS) (O.OpensF.one rfl (O.Opens.slice Tryz.underlying24 (by kernel_rfl) (O.Opens.int Tryz.underlying3 (by kernel_rfl))))) (fun x => x) (fun p => p) (fun _ => rfl)
 obtain ⟨cs,y,rfl,hK,_⟩:=O.opens_agg Tryz.underlying28 (by kernel_rfl) (O.OpensF.more rfl OS (O.OpensF.more rfl (O.Opens.slice Tryz.underlying22 (by kernel_rfl) OV) (O.OpensF.one rfl OT))) hv hx
 obtain ⟨a,l1,l2,l3⟩:=y
 obtain ⟨d1,d2,e0,K1,d3,d4,e1,K2,d5,d6,e2,K3,K4⟩:=hK
 obtain ⟨A1,n1,e3,hc1,hr1⟩:=K2
 obtain ⟨A2,n2,e4,hc2,hr2⟩:=K3
 obtain ⟨A3,n3,e5,hc3,hr3⟩:=K4
 have K1:d1 = [.string a]:=K1
 subst K1 e1 e2 e3 e4 e5
 refine ⟨a,A1,n1,l1,A2,n2,l2,A3,n3,l3,?_,hr1,hc1,hr2,hc2,hr3,hc3⟩
 congr 1
 cases cs
 simpa using e0
theorem lifted (os:Os) (started:os.Started) (H:Type) (enc:TypeId × Value → H) :
  ReturnsInHanded {} Tryz.checked os 3 .any (fun w args => (Rows.profileRateSpec.pre enc Tryz.prog Tryz.f3 [] false w args ∧ laidMetH Tryz.prog laid3 w) ∧ sizedMet enc Tryz.prog Tryz.f3 (OpenSpec.ofChange Rows.profileRateSpec) false w args)
   (Rows.profileRateSpec.post enc Tryz.prog Tryz.f3 false true false false):=by
 refine returnsInHanded_of_calls (C:=Tryz.checked) own started (by kernel_rfl)
  (ChangeSpec.witness_shaped (enc:=enc) (C:=Tryz.checked) (os:=os) (X:=fun w _ => laidMetH Tryz.prog laid3 w) false (World.laidAll Tryz.prog os laid3) noArgs 8 (World.laidAll_os _ _ _) (World.shaped_of_ZipB (by kernel_rfl) (by kernel_rfl)) (by kernel_rfl) (by kernel_rfl) (by kernel_rfl)
   (by rw [MakeChecks.laidMetH_plain _ _ _ plain3];exact laidMet_laidAll _ (layFits3 os) (layIfaces3 os))) ?_
 intro w0 tape i _ hsh _ hok hpre hholds
 obtain ⟨_,_,_,fn',hfn',_,_,_,_,hval0⟩:=hok
 have efn:fn' = Tryz.f3:=Option.some.inj (hfn'.symm.trans Tryz.func3)
 subst efn
 obtain ⟨⟨⟨ds,gs,before,hw,hcnd⟩,hx⟩,hz⟩:=hpre
 have hW:=DataW.Whole.of_heap (w':=w0.forCall tape i) (by rfl) hw
 have hT:EV.TabOK (w0.forCall tape i):=tab_of hsh (hx.of_heap (by rfl))
 refine Calls.mono ?_ fun e W' (h:∃ v,e = .returned v ∧ Rows.profileRateSpec.post enc Tryz.prog Tryz.f3 false true false false (w0.forCall tape i) i.args v W') => ?_
 rotate_left
 ·obtain ⟨v,rfl,hp⟩:=h
  exact ChangeSpec.post_blind hp
 generalize w0.forCall tape i = W at *
 generalize i.args = args at *
 have hval:∀ (j:Nat) t v,Tryz.f3.params[j]? = some t → args[j]? = some v → Value.okWide Tryz.prog W .any w0.heap.size t v:=hval0
 have hW':=hW
 obtain ⟨p,q,hA0,hV,rfl,hfz,hnd⟩:=hW
 have hA:DataW.TrodAll enc Tryz.prog W 0 (fun _ => true) true Tryz.f3.params.toList args.toList ds p:=hA0
 rw [Tryz.params3] at hA hval
 obtain ⟨v0,vs0,d0,ds0,p0,q0,hargs,rfl,rfl,h0,r0⟩:=trodAll_cons hA
 obtain ⟨v1,vs1,d1,ds1,p1,q1,hargs1,rfl,rfl,h1,r1⟩:=trodAll_cons r0
 obtain ⟨rfl,rfl,rfl⟩:=trodAll_nil r1
 subst hargs1
 obtain rfl:args = #[v0,v1]:=by cases args;simp_all
 obtain ⟨rfl,rfl⟩:=trodVars_none hV
 have k0:=h0
 have k1:=h1
 have lt0:∀ x ∈ p0,x.block < W.heap.size:=by obtain ⟨m,hm⟩:=k0;exact DataW.trod_lt m _ _ _ hm
 have lt1:∀ x ∈ p1,x.block < W.heap.size:=by obtain ⟨m,hm⟩:=k1;exact DataW.trod_lt m _ _ _ hm
 obtain ⟨a0,A1,c1,l1,A2,c2,l2,A3,c3,l3,rfl,H1,G1,H2,G2,H3,G3⟩:=profile_of (hval 0 28 v0 rfl rfl) h0
 obtain ⟨key,rfl,_,_,_⟩:=Go.ChangeMaps.open_string Tryz.underlying9 (hval 1 9 v1 rfl rfl) h1
 clear hA0 hval0
 refine (V.law a0 A1 c1 l1 A2 c2 l2 A3 c3 l3 key W H1 G1 H2 G2 H3 G3 hT).mono fun e W' ⟨he,bel⟩ => ?_
 subst he
 have hx0:=Below.trod laidOut (by kernel_rfl) (of_decide_eq_true (by kernel_rfl)) k0 bel lt0
 have hx1:=Below.trod laidOut (by kernel_rfl) (of_decide_eq_true (by kernel_rfl)) k1 bel lt1
 exact ⟨_,rfl,_,_,_,[],_,[],hW',trodAll_mk1 (shut_bool Tryz.underlying4 _),(trodAll_cons_mk hx0 (trodAll_cons_mk hx1 trodAll_mk0)),rfl,bel.frame _,fun h => by cases h⟩
end Go.Proofs.YtnbcnoabbdegpaaGreatDoor.R
