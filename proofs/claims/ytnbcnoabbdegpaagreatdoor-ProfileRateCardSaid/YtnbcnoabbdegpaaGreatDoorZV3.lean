/- A part of the proof of the tied card of ProfileRate (chapter 53): the law returns true whatever the input. -/
import Derived.Test.YtnbcnoabbdegpaaGreatDoorZV2
import Derived.Laws.Externs
import Derived.Lib.Bytealg
import Derived.Lib.UnsafeStr
import Derived.Deep.Upon
import Derived.DeepKeys3
import Derived.MapKept
import Derived.RangeFuncIn
set_option linter.unusedVariables false
set_option linter.unusedSimpArgs false
noncomputable section
namespace EV
open Go
variable {P:Program} {g:Nat}
def up0 (n:Nat) (v:AV):AV:=bK (isPt v.1) ⟨v.1,n + v.2,v.3,v.4⟩ v
theorem upK_eq (n:Nat) (v:AV) (k:AV → Ans):upK n v k = k (up0 n v):=by
 unfold upK up0
 cases isPt v.1 with
 | true => exact fT_eq (R:=Ans) (Nat.add n v.2) fun b => k ⟨v.1,b,v.3,v.4⟩
 | false => rfl
theorem upsK_eq (n:Nat):∀ (l:List AV) (k:List AV → Ans),upsK n l k = k (l.map (up0 n))
 | [],k => rfl
 | x :: l,k => by
  have e:upsK n (x :: l) k = upK n x fun x => upsK n l fun l => k (x :: l):=rfl
  rw [e,upK_eq,upsK_eq n l]
  rfl
def upVl (n:Nat) (v:AV):AV:=bK (Nat.beq v.1 7) (mAgg (v.4.4.map (up0 n))) (up0 n v)
theorem upV_eq (n:Nat) (v:AV) (k:AV → Ans):upV n v k = k (upVl n v):=by
 unfold upV upVl
 cases Nat.beq v.1 7 with
 | true => exact upsK_eq n v.4.4 fun l => k (mAgg l)
 | false => exact upK_eq n v k
theorem upVs_eq (n:Nat):∀ (l:List AV) (k:List AV → Ans),upVs n l k = k (l.map (upVl n))
 | [],k => rfl
 | x :: l,k => by
  have e:upVs n (x :: l) k = upV n x fun x => upVs n l fun l => k (x :: l):=rfl
  rw [e,upV_eq,upVs_eq n l]
  rfl
def layH (n:Nat):List PB → Heap → Nat → Heap
 | [],h,_ => h
 | p :: rb,h,m => layH n rb (hset h m ⟨1,p.1,(p.4.map (up0 n)).length,setL (p.4.map (up0 n)) 0 cells0,[],0⟩) (m + 1)
theorem layP_ok (n:Nat):∀ {rb:List PB} {h:Heap} {m:Nat} {k:Heap → Nat → Ans},(layP n rb h m k).ok → layP n rb h m k = k (layH n rb h m) (m + rb.length) ∧ (∀ p ∈ rb,p.4.length ≤ maxCells) ∧ (rb ≠ [] → m + rb.length ≤ maxBlocks)
 | [],h,m,k,_ => ⟨rfl,by simp,fun c => absurd rfl c⟩
 | p :: rb,h,m,k,hk => by
  have e:layP n (p :: rb) h m k = upsK n p.4 fun cs => rowK p.1 cs h m fun h m => layP n rb h m k:=rfl
  rw [e,upsK_eq] at hk ⊢
  obtain ⟨h1,h2,e2⟩:=rowK_ok hk
  rw [e2] at hk ⊢
  obtain ⟨e3,h3,h4⟩:=layP_ok n hk
  refine ⟨by rw [e3];simp only [layH,List.length_cons];congr 1;omega,fun q hq => ?_,fun _ => ?_⟩
  ·rcases List.mem_cons.1 hq with rfl | hq
   ·simpa using h1
   ·exact h3 q hq
  ·cases rb with
   | nil => simp;omega
   | cons q rb =>
    have:=h4 (by simp)
    simp only [List.length_cons] at this ⊢
    omega
theorem up_leaf {ρ' ρ:Rho} {n m:Nat} {v:AV} {u:Value} (hv:lfB m v = true) (hρ:∀ b,b < m → ρ (n + b) = ρ' b) (hu:VR ρ' v u):VR ρ (up0 n v) u:=by
 unfold up0
 rcases lfB_cases hv with ⟨hp,hlt⟩ | ⟨hp,ht⟩
 ·rw [hp]
  have hsome:∃ pl,ρ' v.2 = some pl:=by
   rcases isPt_tag hp with h | h
   ·obtain ⟨pl,q,_⟩:=VR_3 hu h;exact ⟨pl,q⟩
   ·obtain ⟨pl,_,_,q,_⟩:=VR_4 hu h;exact ⟨pl,q⟩
  obtain ⟨pl,hpl⟩:=hsome
  have:=(VR_move (ρ:=ρ) (o:=0) (u:=u) hp ((hρ v.2 hlt).trans hpl) hpl rfl rfl rfl).2 hu
  rwa [Nat.zero_add] at this
 ·rw [hp]
  exact VR_leaf hp ht hu
theorem up_leaves {ρ' ρ:Rho} {n m:Nat} (hρ:∀ b,b < m → ρ (n + b) = ρ' b):∀ {l:List AV} {us:List Value},(∀ x ∈ l,lfB m x = true) → VRs ρ' l us → VRs ρ (l.map (up0 n)) us
 | [],[],_,_ => trivial
 | x :: l,u :: us,hok,hu => ⟨up_leaf (hok x (by simp)) hρ hu.1,up_leaves hρ (fun z hz => hok z (by simp [hz])) hu.2⟩
 | [],_ :: _,_,hu => hu.elim
 | _ :: _,[],_,hu => hu.elim
theorem up_val {ρ' ρ:Rho} {n m:Nat} {v:AV} {u:Value} (hv:okVB m v = true) (hρ:∀ b,b < m → ρ (n + b) = ρ' b) (hu:VR ρ' v u):VR ρ (upVl n v) u:=by
 unfold okVB at hv
 unfold upVl
 by_cases h7:v.1 = 7
 ·rw [nbT h7] at hv ⊢
  have hv:lfsB m v.4.4 = true:=hv
  obtain ⟨cs,hc,q1,q2⟩:=VR_7 hu h7
  subst hc
  exact VR_mAgg (up_leaves hρ (lfsB_mem hv) q1) q2
 ·rw [nbF h7] at hv ⊢
  have hv:lfB m v = true:=hv
  exact up_leaf hv hρ hu
theorem up_vals {ρ' ρ:Rho} {n m:Nat} (hρ:∀ b,b < m → ρ (n + b) = ρ' b):∀ {l:List AV} {us:List Value},(∀ x ∈ l,okVB m x = true) → VRs ρ' l us → VRs ρ (l.map (upVl n)) us
 | [],[],_,_ => trivial
 | x :: l,u :: us,hok,hu => ⟨up_val (hok x (by simp)) hρ hu.1,up_vals hρ (fun z hz => hok z (by simp [hz])) hu.2⟩
 | [],_ :: _,_,hu => hu.elim
 | _ :: _,[],_,hu => hu.elim
def Rho.app (ρ:Rho) (n:Nat) (pls:List Pl):Rho:=fun b => if n ≤ b ∧ b < n + pls.length then pls[b - n]? else ρ b
theorem app_at {ρ:Rho} {n:Nat} {pls:List Pl} {b:Nat} (h:b < pls.length):(ρ.app n pls) (n + b) = pls[b]?:=by
 unfold Rho.app
 rw [if_pos ⟨by omega,by omega⟩]
 congr 1
 omega
theorem app_old {ρ:Rho} {n:Nat} {pls:List Pl} {b:Nat} (h:b < n):(ρ.app n pls) b = ρ b:=by
 unfold Rho.app
 rw [if_neg (by omega)]
theorem lay_step {lk:Nat} {ρ:Rho} {h:Heap} {n:Nat} {w w':World} (hE:Emb g lk ρ h n w) (hK:Keeps w w') {pls:List Pl} {rb:List PB} (hlen:pls.length = rb.length) (hmx:rb ≠ [] → n + rb.length ≤ maxBlocks)
  (hok:∀ p ∈ rb,lfsB rb.length p.4 = true)
  (hb:∀ (i:Nat) (p:PB),rb[i]? = some p → ∃ pl,pls[i]? = some pl ∧ w.heap.size ≤ pl.B ∧ pl.B < w'.heap.size ∧ OW (rhoL pls) (pbAO 1 0 p) pl w')
  (hd:∀ (i j:Nat) (pl pl':Pl),i ≠ j → pls[i]? = some pl → pls[j]? = some pl' → pl.B ≠ pl'.B) :
  Emb g lk (ρ.app n pls) (layH n rb h n) (n + rb.length) w' ∧ Stp lk ρ h n w (ρ.app n pls) (layH n rb h n) (n + rb.length) w':=by
 have hmx':n + rb.length ≤ maxBlocks:=by
  cases rb with
  | nil => simpa using hE.nb
  | cons p rb => exact hmx (by simp)
 have hle:ρ.le (ρ.app n pls):=fun b pl hb => by rw [app_old (hE.bd b pl hb).1];exact hb
 have low:∀ b,b < n + rb.length → (hget h b).1 ≠ 0 → b < n:=fun b hbm ht => by
  rcases Nat.lt_or_ge b n with c | c
  ·exact c
  ·exact absurd (hE.up b c (by omega)) ht
 have E0:Emb g lk (ρ.app n pls) h (n + rb.length) w':=by
  refine ⟨hmx',hE.gk,by have:=hE.kn;omega,fun b pl hp => ?_,fun b hbm ht => ?_,fun b b' pl pl' h1 h2 h3 h4 h5 h6 h7 h8 h9 => ?_,fun b hb' => ?_,fun b hb' hm => hE.up b (by omega) hm,fun b b' pl pl' h1 h2 h3 h4 h5 h6 h7 h8 => ?_⟩
  ·by_cases c:n ≤ b ∧ b < n + pls.length
   ·obtain ⟨p,hp'⟩:∃ p,rb[b - n]? = some p:=⟨rb[b - n]'(by omega),by simp⟩
    obtain ⟨q,q1,_,q3,_⟩:=hb (b - n) p hp'
    unfold Rho.app at hp
    rw [if_pos c,q1] at hp
    cases hp
    exact ⟨by omega,q3⟩
   ·unfold Rho.app at hp
    rw [if_neg c] at hp
    have:=hE.bd b pl hp
    exact ⟨by omega,Nat.lt_of_lt_of_le this.2 hK.sz⟩
  ·obtain ⟨pl,p1,p2⟩:=hE.ob b (low b hbm ht) ht
   exact ⟨pl,hle _ _ p1,p2.keep hle (hK.kp _ (hE.bd b pl p1).2)⟩
  ·have l1:=low b h2 h5
   have l2:=low b' h3 h6
   rw [app_old l1] at h7
   rw [app_old l2] at h8
   exact hE.inj b b' pl pl' h1 l1 l2 h4 h5 h6 h7 h8 h9
  ·obtain ⟨R,hR⟩:=hE.gl b hb'
   exact ⟨R,hle _ _ hR⟩
  ·have l2:=low b' h3 (by rw [h5];decide)
   rw [app_old (by omega)] at h6
   rw [app_old l2] at h7
   exact hE.shr b b' pl pl' h1 h2 l2 h4 h5 h6 h7 h8
 have S0:Stp lk ρ h n w (ρ.app n pls) h (n + rb.length) w':=
  ⟨hle,by omega,hK.os,hK.tape,hK.output,hK.sz,fun B hB _ => hK.kp B hB,fun b pl h1 h2 h3 h4 _ => by
   have l1:=low b h2 h3
   rw [app_old l1] at h4
   exact ⟨b,pl,h1,l1,h3,h4,rfl⟩,fun _ _ => rfl,fun _ _ h => h,fun b hb' hn => by rw [app_old hb'];exact hn⟩
 -- block by block
 have key:∀ (rest:List PB) (i:Nat) (hc:Heap),(∀ j,rest[j]? = rb[i + j]?) → i + rest.length = rb.length → Emb g lk (ρ.app n pls) hc (n + rb.length) w' → Stp lk ρ h n w (ρ.app n pls) hc (n + rb.length) w' →
   (∀ b pl,b < n + rb.length → (hget hc b).1 ≠ 0 → (ρ.app n pls) b = some pl → ∀ j q,i ≤ j → pls[j]? = some q → pl.B ≠ q.B) →
   Emb g lk (ρ.app n pls) (layH n rest hc (n + i)) (n + rb.length) w' ∧ Stp lk ρ h n w (ρ.app n pls) (layH n rest hc (n + i)) (n + rb.length) w':=by
  intro rest
  induction rest with
  | nil => intro i hc _ _ hE1 hS1 _;exact ⟨hE1,hS1⟩
  | cons p rest ih =>
   intro i hc hr hi hE1 hS1 hap
   simp only [List.length_cons] at hi
   have hp:rb[i]? = some p:=by have:=hr 0;simpa using this.symm
   obtain ⟨pl,q1,q2,q3,q4⟩:=hb i p hp
   have hat:(ρ.app n pls) (n + i) = some pl:=by rw [app_at (by omega)];exact q1
   have hO:OW (ρ.app n pls) ⟨1,p.1,(p.4.map (up0 n)).length,setL (p.4.map (up0 n)) 0 cells0,[],0⟩ pl w':=by
    obtain ⟨o1,_,_⟩:=q4
    obtain ⟨a1,a2,a3,a4,a5,a6⟩:=o1 rfl
    have a3:p.4.length ≤ pl.R:=a3
    have a4:p.4.length ≤ maxCells:=a4
    refine ⟨fun _ => ⟨a1,a2,by simpa using a3,by simpa using a4,fun j hj => ?_,a6⟩,fun c => (by cases c),fun c => (by cases c)⟩
    have hj:j < p.4.length:=by simpa using hj
    obtain ⟨u,u1,u2,u3⟩:=a5 j hj
    refine ⟨u,u1,u2,?_⟩
    have e1:(setL p.4 0 cells0).get j = p.4.getD j undefA:=by
     have:=setL_get p.4 0 cells0 j (by omega) (by omega)
     rw [if_pos (by omega)] at this
     simpa using this
    have e2:(setL (p.4.map (up0 n)) 0 cells0).get j = (p.4.map (up0 n)).getD j undefA:=by
     have:=setL_get (p.4.map (up0 n)) 0 cells0 j (by simpa using a4) (by omega)
     rw [if_pos (by simp;omega)] at this
     simpa using this
    obtain ⟨z,hz⟩:∃ z,p.4[j]? = some z:=⟨p.4[j],by simp [hj]⟩
    have u3:VR (rhoL pls) ((setL p.4 0 cells0).get j) u:=u3
    have e3:p.4.getD j undefA = z:=by rw [List.getD_eq_getElem?_getD,hz];rfl
    rw [e1,e3] at u3
    change VR (ρ.app n pls) ((setL (p.4.map (up0 n)) 0 cells0).get j) u
    have e4:(p.4.map (up0 n)).getD j undefA = up0 n z:=by rw [List.getD_eq_getElem?_getD,List.getElem?_map,hz];rfl
    rw [e2,e4]
    exact up_leaf (lfsB_mem (hok p (List.mem_of_getElem? hp)) z (List.mem_of_getElem? hz)) (fun b hb' => app_at (by omega)) u3
   have hg:∀ b,b < n + rb.length → hget (hset hc (n + i) ⟨1,p.1,(p.4.map (up0 n)).length,setL (p.4.map (up0 n)) 0 cells0,[],0⟩) b = if b = n + i then ⟨1,p.1,(p.4.map (up0 n)).length,setL (p.4.map (up0 n)) 0 cells0,[],0⟩ else hget hc b:=fun b hb' => hget_hset hc (n + i) b _ (by omega) (by omega)
   have:=ih (i + 1) _ (fun j => by have:=hr (j + 1);rw [show i + 1 + j = i + (j + 1) by omega];simpa using this) (by omega)
    (hE1.adopt (by omega) hat hO fun b q hb' ht hq => hap b q hb' ht hq i pl (Nat.le_refl _) q1) (Stp.adopt hS1 hE1.nb (by omega) hE.kn (by omega) hat q2) (fun b q hb' ht hq j q' hj hq' => ?_)
   ·rw [show n + (i + 1) = n + i + 1 by omega] at this
    exact this
   ·rw [hg b hb'] at ht
    by_cases e:b = n + i
    ·subst e
     rw [hat] at hq
     cases hq
     exact hd i j pl q' (by omega) q1 hq'
    ·rw [if_neg e] at ht
     exact hap b q hb' ht hq j q' (by omega) hq'
 have:=key rb 0 h (fun j => by simp) (by omega) E0 S0 fun b pl hbm ht hp j q _ hq => ?_
 ·rw [Nat.add_zero] at this
  exact this
 ·have l1:=low b hbm ht
  rw [app_old l1] at hp
  have h1:=(hE.bd b pl hp).2
  have hj:j < rb.length:=by rw [← hlen];exact (List.getElem?_eq_some_iff.1 hq).1
  obtain ⟨p,hp'⟩:∃ p,rb[j]? = some p:=⟨rb[j],by simp [hj]⟩
  obtain ⟨q0,q1,q2,_⟩:=hb j p hp'
  rw [hq] at q1
  cases q1
  omega
end EV
end
noncomputable section
namespace EV
open Go
variable {P:Program} {g:Nat} {ns:List Tmp}
def ExtOK (P:Program) (H:Nat → HE):Prop:=
 ∀ f fn,P.funcs[f]? = some fn → fn.body = none → ((H f).1 % 4 = 1 ∨ (H f).1 % 4 = 2 ∨ (H f).1 % 4 = 3) →
  (fn.name == "runtime.NumGoroutine") = false ∧ Extern.findNext fn = none ∧ ((H f).1 % 4 = 1 → Extern.find fn = some Extern.BytealgIndexByte.indexByte) ∧ ((H f).1 % 4 = 2 → Extern.find fn = some Extern.AbiNoEscape.same) ∧ ((H f).1 % 4 = 3 → Extern.find fn = some Extern.BytealgCount.count)
def CfOK (P:Program) (g:Nat) (f:FuncId) (x:FnF) (ihp:IH → Prop):Prop:=
 ∀ (cx:Cx) (vs:List AV) (h:Heap) (n:Nat) (K:Vk),ihp cx.2 → (x.1 cx vs h n K).ok →
  ∃ v h' n',x.1 cx vs h n K = K v h' n' ∧ ∀ (ρ:Rho) (args:Array Value) (w:World),Emb g cx.1 ρ h n w → VRs ρ vs args.toList →
   ((callFunc f args).run P w = .ok (.enter f args) w ∧ Calls P f args w fun e w' => ∃ u ρ',e = .returned u ∧ VR ρ' v u ∧ Emb g cx.1 ρ' h' n' w' ∧ Stp cx.1 ρ h n w ρ' h' n' w') ∨
   (∃ u ρ' w',(callFunc f args).run P w = .ok (.value u) w' ∧ VR ρ' v u ∧ Emb g cx.1 ρ' h' n' w' ∧ Stp cx.1 ρ h n w ρ' h' n' w')
theorem badCf_ok {f:FuncId} {ihp:IH → Prop}:CfOK P g f badF ihp:=fun _ _ _ _ _ _ h => h.elim
theorem run_callFunc_body {f:FuncId} {fn:Func} {c:Code} (hf:P.funcs[f]? = some fn) (hn:plainName fn.name = true) (hb:fn.body = some c) (args:Array Value) (w:World):(callFunc f args).run P w = .ok (.enter f args) w:=by
 have h1:fn.name ≠ "runtime.NumGoroutine":=by
  intro e
  unfold plainName at hn
  rw [e] at hn
  simp at hn
 simp [callFunc,hf,h1,hb]
theorem VRs_one {ρ:Rho} {l:List AV} {us:List Value} (h:VRs ρ l us) (hl:l.length = 1):∃ u,us = [u] ∧ VR ρ (nth l 0) u:=by
 match l,us,h,hl with
 | [v],[u],h,_ => exact ⟨u,rfl,h.1⟩
theorem VRs_two {ρ:Rho} {l:List AV} {us:List Value} (h:VRs ρ l us) (hl:l.length = 2):∃ u u',us = [u,u'] ∧ VR ρ (nth l 0) u ∧ VR ρ (nth l 1) u':=by
 match l,us,h,hl with
 | [v,v'],[u,u'],h,_ => exact ⟨u,u',rfl,h.1,h.2.1⟩
theorem same_ok {f:FuncId} {fn:Func} {ihp:IH → Prop} (hf:P.funcs[f]? = some fn) (hname:(fn.name == "runtime.NumGoroutine") = false) (hb:fn.body = none) (hn:Extern.findNext fn = none)
  (he:Extern.find fn = some Extern.AbiNoEscape.same):CfOK P g f xSame ihp:=by
 intro cx vs h n K _ hk
 have hk:(bA (Nat.beq (len vs) (nat_lit 1)) (K (nth vs (nat_lit 0)) h n) (.fail 65)).ok:=hk
 change ∃ v h' n',bA (Nat.beq (len vs) (nat_lit 1)) (K (nth vs (nat_lit 0)) h n) (.fail 65) = K v h' n' ∧ _
 obtain ⟨h1,e⟩:=bA_ok hk
 rw [e]
 rw [len_eq] at h1
 refine ⟨_,_,_,rfl,fun ρ args w hE hv => .inr ?_⟩
 obtain ⟨u,hu,hr⟩:=VRs_one hv (Nat.eq_of_beq_eq_true h1)
 have ha:args = #[u]:=by rw [← Array.toArray_toList (xs:=args),hu]
 refine ⟨u,ρ,w,?_,hr,hE,Stp.refl _ _ _ _ _⟩
 have hs:(Extern.AbiNoEscape.same #[u]).run P w = .ok u w:=rfl
 rw [run_callFunc_extern hf hname (by simp [hb]) hn he,ha,hs]
 rfl
theorem findB_eq (c n s:Nat) (k:Nat → Ans) (e:Ans):∀ m,m ≤ n → findB c n s m k e = match (List.range' (n - m) m).find? (fun i => Nat.beq (byteAt n s i) c) with | some i => k i | none => e
 | 0,_ => rfl
 | m + 1,h => by
  have h1:findB c n s (m + 1) k e = bA (Nat.beq (byteAt n s (n - 1 - m)) c) (k (n - 1 - m)) (findB c n s m k e):=rfl
  have h2:n - 1 - m = n - (m + 1):=by omega
  have h3:n - (m + 1) + 1 = n - m:=by omega
  rw [h1,h2,List.range'_succ,List.find?_cons,findB_eq c n s k e m (by omega),h3]
  cases Nat.beq (byteAt n s (n - (m + 1))) c <;> rfl
theorem index_byte_ok {f:FuncId} {fn:Func} {ihp:IH → Prop} (hf:P.funcs[f]? = some fn) (hname:(fn.name == "runtime.NumGoroutine") = false) (hb:fn.body = none) (hn:Extern.findNext fn = none)
  (he:Extern.find fn = some Extern.BytealgIndexByte.indexByte):CfOK P g f xIndexByte ihp:=by
 intro cx vs h n K _ hk
 have hk:(isT (nat_lit 5) (nth vs (nat_lit 0)) (isT (nat_lit 20) (nth vs (nat_lit 1)) (bA (Nat.beq (len vs) (nat_lit 2)) (findB (nth vs (nat_lit 1)).2 (nth vs (nat_lit 0)).2 (nth vs (nat_lit 0)).3 (nth vs (nat_lit 0)).2 (fun i => tch i fun i => lenK i fun v => K v h n) (K (mInt (nat_lit 19) (nat_lit 18446744073709551615)) h n)) (.fail 64)))).ok:=hk
 change ∃ v h' n',(isT (nat_lit 5) (nth vs (nat_lit 0)) (isT (nat_lit 20) (nth vs (nat_lit 1)) (bA (Nat.beq (len vs) (nat_lit 2)) (findB (nth vs (nat_lit 1)).2 (nth vs (nat_lit 0)).2 (nth vs (nat_lit 0)).3 (nth vs (nat_lit 0)).2 (fun i => tch i fun i => lenK i fun v => K v h n) (K (mInt (nat_lit 19) (nat_lit 18446744073709551615)) h n)) (.fail 64)))) = K v h' n' ∧ _
 obtain ⟨h1,e⟩:=isT_ok hk
 rw [e] at hk ⊢
 obtain ⟨h2,e⟩:=isT_ok hk
 rw [e] at hk ⊢
 obtain ⟨h3,e⟩:=bA_ok hk
 rw [e,findB_eq _ _ _ _ _ _ (Nat.le_refl _)] at hk ⊢
 rw [len_eq] at h3
 have run:∀ (ρ:Rho) (args:Array Value) (w:World),VRs ρ vs args.toList → ∃ s c,s.size = (nth vs 0).2 ∧ c < 256 ∧ c = (nth vs 1).2 ∧ (∀ i (hi:i < s.size),byteAt (nth vs 0).2 (nth vs 0).3 i = (s[i]'hi).toNat) ∧
   (callFunc f args).run P w = .ok (.value (.int .i64 (firstIdx s (UInt8.ofNat c)))) w:=fun ρ args w hv => by
  obtain ⟨u,u',hu,r1,r2⟩:=VRs_two hv (Nat.eq_of_beq_eq_true h3)
  have ha:args = #[u,u']:=by rw [← Array.toArray_toList (xs:=args),hu]
  obtain ⟨s,hs,s1,s2⟩:=VR_5 r1 h1
  obtain ⟨c1,c2⟩:=VR_i (k:=.u8) r2 h2
  refine ⟨s,(nth vs 1).2,s1,c1,rfl,fun i hi => ?_,?_⟩
  ·rw [← s1,← s2]
   exact byteAt_str hi
  ·have hi:=run_indexByte_string (P:=P) s ((nth vs 1).2:Int) w
   have hc:((nth vs 1).2:Int).toNat.toUInt8 = UInt8.ofNat (nth vs 1).2:=by rw [Int.toNat_natCast]
   rw [hc] at hi
   rw [run_callFunc_extern hf hname (by simp [hb]) hn he,ha,hs,c2,toI_nonneg (k:=.u8) c1,hi]
   rfl
 have spec:∀ (s:ByteArray) (c:Nat),c < 256 → c = (nth vs 1).2 → s.size = (nth vs 0).2 → (∀ i (hi:i < s.size),byteAt (nth vs 0).2 (nth vs 0).3 i = (s[i]'hi).toNat) →
   firstIdx s (UInt8.ofNat c) = match (List.range' ((nth vs 0).2 - (nth vs 0).2) (nth vs 0).2).find? (fun i => Nat.beq (byteAt (nth vs 0).2 (nth vs 0).3 i) (nth vs 1).2) with | some i => (i:Int) | none => -1:=fun s c hc1 hc2 hs hb => by
  unfold firstIdx
  rw [hs,Nat.sub_self,← List.range_eq_range']
  have:(List.range (nth vs 0).2).find? (fun i => s[i]! == UInt8.ofNat c) = (List.range (nth vs 0).2).find? (fun i => Nat.beq (byteAt (nth vs 0).2 (nth vs 0).3 i) (nth vs 1).2):=by
   apply Lib.find_congr
   intro i hi
   have hi':i < s.size:=by have:=List.mem_range.1 hi;omega
   have e1:s[i]! = s[i]'hi':=getElem!_pos s i hi'
   rw [e1,hb i hi',← hc2]
   have hcc:(UInt8.ofNat c).toNat = c:=by rw [UInt8.toNat_ofNat'];exact Nat.mod_eq_of_lt hc1
   by_cases q:(s[i]'hi').toNat = c
   ·rw [nbT q]
    have:s[i]'hi' = UInt8.ofNat c:=UInt8.toNat_inj.1 (q.trans hcc.symm)
    rw [this]
    exact beq_self_eq_true _
   ·rw [nbF q]
    have:s[i]'hi' ≠ UInt8.ofNat c:=fun e => q (by rw [e,hcc])
    simpa using this
  rw [this]
  cases (List.range (nth vs 0).2).find? (fun i => Nat.beq (byteAt (nth vs 0).2 (nth vs 0).3 i) (nth vs 1).2) <;> rfl
 cases hf':(List.range' ((nth vs 0).2 - (nth vs 0).2) (nth vs 0).2).find? (fun i => Nat.beq (byteAt (nth vs 0).2 (nth vs 0).3 i) (nth vs 1).2) with
 | none =>
  refine ⟨_,_,_,rfl,fun ρ args w hE hv => .inr ?_⟩
  obtain ⟨s,c,a1,a2,a3,a4,a5⟩:=run ρ args w hv
  have hsp:=spec s c a2 a3 a1 a4
  rw [hf'] at hsp
  refine ⟨.int .i64 (-1),ρ,w,by rw [a5,hsp],?_,hE,Stp.refl _ _ _ _ _⟩
  exact VR_mInt .i64 (m:=18446744073709551615) (by decide)
 | some i =>
  have hf'':(List.range' ((nth vs (nat_lit 0)).2 - (nth vs (nat_lit 0)).2) (nth vs (nat_lit 0)).2).find? (fun i => Nat.beq (byteAt (nth vs (nat_lit 0)).2 (nth vs (nat_lit 0)).3 i) (nth vs (nat_lit 1)).2) = some i:=hf'
  rw [hf''] at hk
  have hk:(tch i fun i => lenK i fun v => K v h n).ok:=hk
  change ∃ v h' n',(tch i fun i => lenK i fun v => K v h n) = K v h' n' ∧ _
  rw [tch_eq] at hk ⊢
  obtain ⟨h6,e⟩:=bA_ok hk
  have e:lenK i (fun v => K v h n) = K (mInt 19 i) h n:=e
  rw [e]
  refine ⟨_,_,_,rfl,fun ρ args w hE hv => .inr ?_⟩
  obtain ⟨s,c,a1,a2,a3,a4,a5⟩:=run ρ args w hv
  have hsp:=spec s c a2 a3 a1 a4
  rw [hf'] at hsp
  have h6:=bltE h6
  refine ⟨.int .i64 (i:Int),ρ,w,by rw [a5,hsp],?_,hE,Stp.refl _ _ _ _ _⟩
  have:=VR_mInt (ρ:=ρ) .i64 (m:=i) (Nat.lt_trans h6 (by decide))
  rwa [toI_nonneg h6] at this
def cN (c n s:Nat):Nat → Nat → Nat
 | 0,r => r
 | m + 1,r => cN c n s m (bK (Nat.beq (byteAt n s m) c) (r + 1) r)
theorem cntB_eq (c n s:Nat):∀ (m r:Nat) (k:Nat → Ans),cntB c n s m r k = k (cN c n s m r)
 | 0,_,_ => rfl
 | m + 1,r,k => by
  have h:cntB c n s (m + 1) r k = bA (Nat.beq (byteAt n s m) c) (fT (Nat.succ r) fun r => cntB c n s m r k) (cntB c n s m r k):=rfl
  rw [h,fT_eq,cntB_eq c n s m,cntB_eq c n s m,cN]
  cases Nat.beq (byteAt n s m) c <;> rfl
theorem cN_count {c n s:Nat} (hc:c < 256) {l:List UInt8} (hb:∀ i (hi:i < l.length),byteAt n s i = (l[i]'hi).toNat):∀ (m r:Nat),m ≤ l.length → cN c n s m r = r + (l.take m).count (UInt8.ofNat c)
 | 0,r,_ => by simp [cN]
 | m + 1,r,hm => by
  have hm':m < l.length:=hm
  have hcc:(UInt8.ofNat c).toNat = c:=by rw [UInt8.toNat_ofNat'];exact Nat.mod_eq_of_lt hc
  rw [cN,cN_count hc hb m _ (by omega),hb m hm',List.take_succ_eq_append_getElem hm',List.count_append]
  by_cases q:(l[m]'hm').toNat = c
  ·have e:l[m]'hm' = UInt8.ofNat c:=UInt8.toNat_inj.1 (q.trans hcc.symm)
   rw [nbT q,e]
   simp [bK]
   omega
  ·have e:l[m]'hm' ≠ UInt8.ofNat c:=fun e => q (by rw [e,hcc])
   rw [nbF q,List.count_singleton]
   simp [bK,e]
theorem count_ok {f:FuncId} {fn:Func} {ihp:IH → Prop} (hf:P.funcs[f]? = some fn) (hname:(fn.name == "runtime.NumGoroutine") = false) (hb:fn.body = none) (hn:Extern.findNext fn = none)
  (he:Extern.find fn = some Extern.BytealgCount.count):CfOK P g f xCount ihp:=by
 intro cx vs h n K _ hk
 have e0:xCount.1 cx vs h n K = isT (nat_lit 5) (nth vs (nat_lit 0)) (isT (nat_lit 20) (nth vs (nat_lit 1)) (bA (Nat.beq (len vs) (nat_lit 2)) (cntB (nth vs (nat_lit 1)).2 (nth vs (nat_lit 0)).2 (nth vs (nat_lit 0)).3 (nth vs (nat_lit 0)).2 (nat_lit 0) fun i => lenK i fun v => K v h n) (.fail 64))):=rfl
 rw [e0] at hk ⊢
 obtain ⟨h1,e⟩:=isT_ok hk
 rw [e] at hk ⊢
 obtain ⟨h2,e⟩:=isT_ok hk
 rw [e] at hk ⊢
 obtain ⟨h3,e⟩:=bA_ok hk
 rw [e,cntB_eq] at hk ⊢
 rw [len_eq] at h3
 obtain ⟨h6,e⟩:=bA_ok hk
 have e:lenK (cN (nth vs 1).2 (nth vs 0).2 (nth vs 0).3 (nth vs 0).2 0) (fun v => K v h n) = K (mInt 19 (cN (nth vs 1).2 (nth vs 0).2 (nth vs 0).3 (nth vs 0).2 0)) h n:=e
 refine ⟨_,_,_,e,fun ρ args w hE hv => .inr ?_⟩
 obtain ⟨u,u',hu,r1,r2⟩:=VRs_two hv (Nat.eq_of_beq_eq_true h3)
 have ha:args = #[u,u']:=by rw [← Array.toArray_toList (xs:=args),hu]
 obtain ⟨s,hs,s1,s2⟩:=VR_5 r1 h1
 obtain ⟨c1,c2⟩:=VR_i (k:=.u8) r2 h2
 have c1:(nth vs 1).2 < 256:=c1
 have hsz:s.data.toList.length = (nth vs 0).2:=by rw [← s1];simp
 have hcn:=cN_count c1 (n:=(nth vs 0).2) (s:=(nth vs 0).3) (l:=s.data.toList) (fun i hi => by
  have hi:i < s.size:=by simpa using hi
  rw [← s1,← s2]
  exact (byteAt_str hi).trans rfl) (nth vs 0).2 0 (by omega)
 rw [Nat.zero_add,List.take_of_length_le (by omega)] at hcn
 have h6:=bltE h6
 have h6:cN (nth vs 1).2 (nth vs 0).2 (nth vs 0).3 (nth vs 0).2 0 < 9223372036854775808:=h6
 refine ⟨.int .i64 ((cN (nth vs 1).2 (nth vs 0).2 (nth vs 0).3 (nth vs 0).2 0:Nat):Int),ρ,w,?_,?_,hE,Stp.refl _ _ _ _ _⟩
 ·have hi:=Lib.run_countString (P:=P) s ((nth vs 1).2:Int) w
  have hc:((nth vs 1).2:Int).toNat.toUInt8 = UInt8.ofNat (nth vs 1).2:=by rw [Int.toNat_natCast]
  rw [hc] at hi
  rw [run_callFunc_extern hf hname (by simp [hb]) hn he,ha,hs,c2,toI_nonneg (k:=.u8) c1,hi,hcn]
  rfl
 ·have:=VR_mInt (ρ:=ρ) .i64 (m:=cN (nth vs 1).2 (nth vs 0).2 (nth vs 0).3 (nth vs 0).2 0) (Nat.lt_trans h6 (by decide))
  rwa [toI_nonneg h6] at this
def EntsOK (P:Program) (g:Nat) (H:Nat → HE):Prop:=∀ f,∀ E ∈ (H f).2,EntOK P g f E
theorem entF_ok {f:FuncId} {fn:Func} {c:Code} {ihp:IH → Prop} (hf:P.funcs[f]? = some fn) (hp:plainName fn.name = true) (hb:fn.body = some c) {x:FnF} (hx:CfOK P g f x ihp):∀ es:List Ent,(∀ E ∈ es,EntOK P g f E) → CfOK P g f (entF es x) ihp
 | [],_ => hx
 | E :: es,hE => fun cx vs h n K hI hk => by
  have hE0:=hE E (by simp)
  have ih:=entF_ok hf hp hb hx es (fun E' h' => hE E' (by simp [h']))
  have hk:(useE E vs h n K ((entF es x).1 cx vs h n K)).ok:=hk
  change ∃ v h' n',useE E vs h n K ((entF es x).1 cx vs h n K) = K v h' n' ∧ _
  unfold useE matchP at hk ⊢
  rcases findP_ok (vs:=vs) (h:=h) (n:=n) (els:=(entF es x).1 cx vs h n K)
   (k:=fun fs => bA (fitVs fs (len E.2) E.1 vs) (bA (fitB fs (len E.2) fs) (layP n E.4 h n fun h m => upVs n E.3 fun l => K (tup l) h m) ((entF es x).1 cx vs h n K)) ((entF es x).1 cx vs h n K)) E.2 [] with e | ⟨fs,e,q1,q2,q3,q4⟩
  ·rw [e] at hk ⊢
   exact ih cx vs h n K hI hk
  ·rw [e] at hk ⊢
   simp only [List.length_nil,Nat.zero_add] at q1 q3
   rw [len_eq] at hk ⊢
   cases f1:fitVs fs E.2.length E.1 vs with
   | false => rw [f1] at hk;exact ih cx vs h n K hI hk
   | true =>
   cases f2:fitB fs E.2.length fs with
   | false => rw [f1,f2] at hk;exact ih cx vs h n K hI hk
   | true =>
   rw [f1,f2,bA_true,bA_true] at hk
   rw [bA_true,bA_true]
   obtain ⟨e2,l1,l2⟩:=layP_ok n hk
   rw [e2,upVs_eq]
   refine ⟨_,_,_,rfl,fun ρ args w hEm hr => .inl ⟨run_callFunc_body hf hp hb args w,?_⟩⟩
   obtain ⟨hw,hent⟩:=hE0
   have hall:∀ i,i < E.2.length → ∃ x p,fs[E.2.length - 1 - i]? = some x ∧ Fnd h n p x:=fun i hi => by
    obtain ⟨x,x1,x2⟩:=q3 i E.2[i] (by simp [hi])
    exact ⟨x,E.2[i],by rw [← q1];exact x1,x2⟩
   refine Calls.mono (hent w args (plsOf ρ fs) (fun b hb' => ?_) (by simp [plsOf,q1]) (fun i p hi => ?_) (vals_found hEm q1 hall hw.as f1 hr)) fun e' w' hh => ?_
   ·obtain ⟨R,hR⟩:=hEm.gl b hb'
    exact (hEm.bd b _ hR).2
   ·have hil:i < E.2.length:=(List.getElem?_eq_some_iff.1 hi).1
    obtain ⟨x,x1,x2⟩:=q3 i p hi
    obtain ⟨pl,p1,p2,p3,p4⟩:=found_place hEm x2
    refine ⟨plOf ρ x,plsOf_get (by omega) x1,by rw [p2];exact p4,block_found hEm q1 hall x2 (hw.ab p (List.mem_of_getElem? hi)).1 ?_,fun hc => ?_⟩
    ·have:=fitB_mem f2 x (List.mem_of_getElem? x1)
     rwa [x2.pc] at this
    ·obtain ⟨g1,g2⟩:=x2.gl hc
     obtain ⟨R,hR⟩:=hEm.gl p.3 ((hw.ab p (List.mem_of_getElem? hi)).2 hc)
     rw [g1,hR] at p1
     cases p1
     rw [p2,g2]
     exact ⟨rfl,rfl⟩
   ·obtain ⟨rs,pls',rfl,r1,r2,r3,r4,r5⟩:=hh
    obtain ⟨s1,s2⟩:=lay_step hEm r5 r2 l2 hw.rb r3 r4
    exact ⟨_,ρ.app n pls',rfl,tup_rel (up_vals (fun b hb' => app_at (by omega)) hw.r r1),s1,s2⟩
structure XOK (P:Program) (g:Nat) (H:Nat → HE):Prop where
 ext:ExtOK P H
 ent:EntsOK P g H
theorem fnF_ok {H:Nat → HE} (hX:XOK P g H) (f:FuncId):CfOK P g f (fnF P H f) (IHok P g):=by
 change CfOK P g f (oG P.funcs[f]? fun fn => Option.rec (motive:=fun _ => FnF) (extF (H f).1) (fun c => bK (plainName fn.name) (bK (Nat.ble fn.ntmps (nat_lit 512)) (fT (Nat.div (H f).1 (nat_lit 4)) fun lc => fT fn.ntmps fun nt => entF (H f).2
  ⟨fun cx vs h n K => bA (Nat.ble (len vs) nt) (bA (Nat.beq (Nat.mod lc (Nat.pow (nat_lit 2) (len vs))) (nat_lit 0)) (enterK vs (nat_lit 0) tmps0 fun T => backK (cx.2 nt lc c cx.1 T h n) fun T h n => resK P fn.results.toList T h fun l => K (tup l) h n) (.fail 96)) (.fail 63)⟩) badF) badF) fn.body) (IHok P g)
 cases hf:P.funcs[f]? with
 | none => exact badCf_ok
 | some fn =>
  cases hb:fn.body with
  | none =>
   have key:=hX.ext f fn hf hb
   change CfOK P g f (Option.rec (motive:=fun _ => FnF) (extF (H f).1) (fun c => bK (plainName fn.name) (bK (Nat.ble fn.ntmps (nat_lit 512)) _ badF) badF) fn.body) (IHok P g)
   rw [hb]
   change CfOK P g f (bK (Nat.beq ((H f).1 % 4) 1) xIndexByte (bK (Nat.beq ((H f).1 % 4) 2) xSame (bK (Nat.beq ((H f).1 % 4) 3) xCount badF))) (IHok P g)
   by_cases h1:(H f).1 % 4 = 1
   ·obtain ⟨a1,a2,a3,_⟩:=key (.inl h1)
    rw [nbT h1]
    exact index_byte_ok hf a1 hb a2 (a3 h1)
   ·rw [nbF h1]
    by_cases h2:(H f).1 % 4 = 2
    ·obtain ⟨a1,a2,_,a4,_⟩:=key (.inr (.inl h2))
     rw [nbT h2]
     exact same_ok hf a1 hb a2 (a4 h2)
    ·rw [nbF h2]
     by_cases h3:(H f).1 % 4 = 3
     ·obtain ⟨a1,a2,_,_,a5⟩:=key (.inr (.inr h3))
      rw [nbT h3]
      exact count_ok hf a1 hb a2 (a5 h3)
     ·rw [nbF h3]
      exact badCf_ok
  | some c =>
   change CfOK P g f (Option.rec (motive:=fun _ => FnF) (extF (H f).1) (fun c => bK (plainName fn.name) (bK (Nat.ble fn.ntmps (nat_lit 512)) (fT (Nat.div (H f).1 (nat_lit 4)) fun lc => fT fn.ntmps fun nt => entF (H f).2
    ⟨fun cx vs h n K => bA (Nat.ble (len vs) nt) (bA (Nat.beq (Nat.mod lc (Nat.pow (nat_lit 2) (len vs))) (nat_lit 0)) (enterK vs (nat_lit 0) tmps0 fun T => backK (cx.2 nt lc c cx.1 T h n) fun T h n => resK P fn.results.toList T h fun l => K (tup l) h n) (.fail 96)) (.fail 63)⟩) badF) badF) fn.body) (IHok P g)
   rw [hb]
   change CfOK P g f (bK (plainName fn.name) (bK (Nat.ble fn.ntmps (nat_lit 512)) (fT (Nat.div (H f).1 (nat_lit 4)) fun lc => fT fn.ntmps fun nt => entF (H f).2
    ⟨fun cx vs h n K => bA (Nat.ble (len vs) nt) (bA (Nat.beq (Nat.mod lc (Nat.pow (nat_lit 2) (len vs))) (nat_lit 0)) (enterK vs (nat_lit 0) tmps0 fun T => backK (cx.2 nt lc c cx.1 T h n) fun T h n => resK P fn.results.toList T h fun l => K (tup l) h n) (.fail 96)) (.fail 63)⟩) badF) badF) (IHok P g)
   cases hp:plainName fn.name with
   | false => exact badCf_ok
   | true =>
    cases hn:Nat.ble fn.ntmps (nat_lit 512) with
    | false => exact badCf_ok
    | true =>
     simp only [bK,fT_eq]
     refine entF_ok hf hp hb (fun cx vs h n K hI hk => ?_) _ (hX.ent f)
     obtain ⟨v,h',n',e,hv⟩:=body_ok (g:=g) (lc:=Nat.div (H f).1 4) hf hb (Nat.le_of_ble_eq_true hn) cx vs h n K hI hk
     exact ⟨v,h',n',e,fun ρ args w hE hr => .inl ⟨run_callFunc_body hf hp hb args w,hv ρ args w hE hr⟩⟩
end EV
end
noncomputable section
namespace EV
open Go
variable {P:Program} {g:Nat} {ns:List Tmp}
theorem call_step {H:Nat → HE} (hX:XOK P g H) {o:Oper} {c:Call} (ho:o.op = .call c) {f:FuncId} {cx:Cx} {vs:List AV} {h:Heap} {n:Nat} {K:Vk} (hI:IHok P g cx.2) (hk:((fnF P H f).1 cx vs h n K).ok) :
  ∃ v h' n',(fnF P H f).1 cx vs h n K = K v h' n' ∧
   ∀ (ρ:Rho) (a:Act) (w:World),Emb g cx.1 ρ h n w → ∀ (args:Array Value),VRs ρ vs args.toList → (execOp a.eval o).run P w = (callFunc f args).run P w →
    ∀ (next:Act → World → Prop) (Q:Exit → Act → World → Prop),
     (∀ u ρ' w',VR ρ' v u → Emb g cx.1 ρ' h' n' w' → Stp cx.1 ρ h n w ρ' h' n' w' → next (a.put o.dst u) w') → o.wp P a w next Q:=by
 obtain ⟨v,h',n',e,hv⟩:=fnF_ok (g:=g) hX f cx vs h n K hI hk
 refine ⟨v,h',n',e,fun ρ a w hE args hr hrun next Q hn => ?_⟩
 rcases hv ρ args w hE hr with ⟨h1,h2⟩ | ⟨u,ρ',w',h1,h2,h3,h4⟩
 ·unfold Oper.wp
  rw [hrun,h1,Oper.upon_enter]
  refine Calls.mono h2 fun e' w' q => ?_
  obtain ⟨u,ρ',rfl,q1,q2,q3⟩:=q
  exact hn u ρ' w' q1 q2 q3
 ·exact wp_value (hrun.trans h1) (hn u ρ' w' h2 h3 h4)
theorem args_mem {c:Call} {y:Operand} (hy:y ∈ c.args.toList):y ∈ (Op.call c).operands:=by
 change y ∈ c.operands
 unfold Call.operands
 exact Array.mem_append.2 (.inr (by simpa using hy))
theorem args_rel {ρ:Rho} {S:P2 Tmps (Env ns)} {a:Act} {c:Call} (h:∀ y ∈ (Op.call c).operands,VR ρ ((opd ns y).1 S) (a.eval y)):VRs ρ (evOs ns c.args.toList S) (c.args.map a.eval).toList:=by
 rw [Array.toList_map]
 exact evOs_rel fun y hy => h y (args_mem hy)
theorem callee_mem {c:Call} {x:Operand} (hc:c.callee = .value x):x ∈ (Op.call c).operands:=by
 change x ∈ c.operands
 unfold Call.operands
 rw [hc]
 exact Array.mem_append.2 (.inl (by simp))
theorem run_call {o:Oper} {c:Call} {x:Operand} (ho:o.op = .call c) (hc:c.callee = .value x) {a:Act} {f:FuncId} {f1 f2:Array Value} (hx:a.eval x = .func (.func f) f1 f2) (w:World) :
  (execOp a.eval o).run P w = (callFunc f (f1 ++ c.args.map a.eval ++ f2)).run P w:=by
 simp [execOp,ho,resolve,hc,hx,Deferred.ofValue,invoke]
theorem callF_ok {H:Nat → HE} (hX:XOK P g H) {o:Oper} {c:Call} {f:FuncId} (ho:o.op = .call c) (hc:c.callee = .value (.func f)) :
  OpOK P g (OpF.mk (ns:=ns) fun cx T h n K => (fnF P H f).1 cx (evOs ns c.args.toList T) h n K) o (IHok P g):=by
 intro cx S h n K hI hk
 obtain ⟨v,h',n',e,hs⟩:=call_step hX ho hI hk
 refine ⟨v,h',n',e,fun ρ a w hE hR next Q hn => hs ρ a w hE (c.args.map a.eval) (args_rel (ho ▸ hR)) ?_ next Q hn⟩
 have:=run_call (P:=P) ho hc (a:=a) (f:=f) (f1:=#[]) (f2:=#[]) rfl w
 simpa using this
theorem callV_ok {H:Nat → HE} (hX:XOK P g H) {o:Oper} {c:Call} {x:Operand} (ho:o.op = .call c) (hc:c.callee = .value x) :
  OpOK P g (OpF.mk (ns:=ns) fun cx T h n K => callV P H cx ((opd ns x).1 T) (evOs ns c.args.toList T) h n K) o (IHok P g):=by
 intro cx S h n K hI hk
 have hk:(isT (nat_lit 10) ((opd ns x).1 S) (fS (appL (appL ((opd ns x).1 S).4.4 (evOs ns c.args.toList S)) ((opd ns x).1 S).4.5) fun vs => fT ((opd ns x).1 S).2 fun f => (fnF P H f).1 cx vs h n K)).ok:=hk
 change ∃ v h' n',isT (nat_lit 10) ((opd ns x).1 S) (fS (appL (appL ((opd ns x).1 S).4.4 (evOs ns c.args.toList S)) ((opd ns x).1 S).4.5) fun vs => fT ((opd ns x).1 S).2 fun f => (fnF P H f).1 cx vs h n K) = K v h' n' ∧ _
 obtain ⟨h1,e⟩:=isT_ok hk
 rw [e,fS_eq,fT_eq] at hk ⊢
 obtain ⟨v,h',n',e,hs⟩:=call_step hX ho hI hk
 refine ⟨v,h',n',e,fun ρ a w hE hR next Q hn => ?_⟩
 have hR':=ho ▸ hR
 obtain ⟨f1,f2,hx,r1,r2⟩:=VR_10 (hR' x (callee_mem hc)) h1
 refine hs ρ a w hE (f1 ++ c.args.map a.eval ++ f2) ?_ (run_call ho hc hx w) next Q hn
 rw [appL_eq,appL_eq,Array.toList_append,Array.toList_append]
 exact VRs_app (VRs_app r1 (args_rel hR')) r2
def BuOK (P:Program) (g:Nat) (b:Builtin) (ts:List TypeId) (x:BuF):Prop:=
 ∀ (cx:Cx) (l:List AV) (h:Heap) (n:Nat) (K:Vk),(x.1 cx l h n K).ok →
  ∃ v h' n',x.1 cx l h n K = K v h' n' ∧
   ∀ (ρ:Rho) (args:Array Value) (w:World),Emb g cx.1 ρ h n w → VRs ρ l args.toList → ∀ (tys:Array TypeId) (type:TypeId) (cs:Array Bool),tys.toList = ts →
    ∃ u ρ' w',(builtin b tys type cs args).run P w = .ok (.value u) w' ∧ VR ρ' v u ∧ Emb g cx.1 ρ' h' n' w' ∧ Stp cx.1 ρ h n w ρ' h' n' w'
def BuiltinsOK (P:Program) (g:Nat):Prop:=∀ sh b ts,BuOK P g b ts (builtinF sh P b ts)
theorem call_ok {H:Nat → HE} (hX:XOK P g H) (hB:BuiltinsOK P g) {o:Oper} {c:Call} (ho:o.op = .call c):OpOK P g (eCall ns P H c) o (IHok P g):=by
 unfold eCall
 split
 ·rename_i f hc
  exact callF_ok hX ho hc
 ·rename_i x _ hc
  exact callV_ok hX ho hc
 ·rename_i b hc
  intro cx S h n K _ hk
  have hk:((builtinF (Nat.blt (nat_lit 3) (H (keyB c.args.toList)).1) P b c.argTypes.toList).1 cx (evOs ns c.args.toList S) h n K).ok:=hk
  obtain ⟨v,h',n',e,hv⟩:=hB (Nat.blt (nat_lit 3) (H (keyB c.args.toList)).1) b c.argTypes.toList cx _ h n K hk
  refine ⟨v,h',n',e,fun ρ a w hE hR next Q hn => ?_⟩
  obtain ⟨u,ρ',w',h1,h2,h3,h4⟩:=hv ρ (c.args.map a.eval) w hE (args_rel (ho ▸ hR)) c.argTypes o.type (c.args.map fun | .const _ => true | _ => false) rfl
  refine wp_value ?_ (hn u ρ' w' h2 h3 h4)
  simp only [execOp,ho,resolve,hc,Sem.run_bind,Sem.run_pure,Result.andThen_ok,invoke]
  exact h1
 ·exact badO_ok
end EV
end
noncomputable section
namespace EV
open Go
variable {P:Program} {g:Nat}
theorem badB_ok {b:Builtin} {ts:List TypeId}:BuOK P g b ts badB:=fun _ _ _ _ _ h => h.elim
theorem oB_ok {α:Type} {b:Builtin} {ts:List TypeId} {x:Option α} {k:α → BuF} (h:∀ y,x = some y → BuOK P g b ts (k y)):BuOK P g b ts (oB x k):=by
 cases x with
 | none => exact badB_ok
 | some y => exact h y rfl
theorem lenK_ok {m:Nat} {k:AV → Ans} (h:(lenK m k).ok):lenK m k = k (mInt 19 m) ∧ ∀ ρ:Rho,VR ρ (mInt 19 m) (goInt m):=by
 obtain ⟨h1,e⟩:=bA_ok h
 refine ⟨e,fun ρ => ?_⟩
 have h1:=bltE h1
 have:=VR_mInt (ρ:=ρ) .i64 (m:=m) (Nat.lt_trans h1 (by decide))
 rwa [toI_nonneg (k:=.i64) h1] at this
def BuPu (P:Program) (g:Nat) (b:Builtin) (ts:List TypeId) (x:BuF):Prop:=
 ∀ (cx:Cx) (l:List AV) (h:Heap) (n:Nat) (K:Vk),(x.1 cx l h n K).ok →
   ∃ v,x.1 cx l h n K = K v h n ∧ ∀ (ρ:Rho) (args:Array Value) (w:World),Emb g cx.1 ρ h n w → VRs ρ l args.toList → ∀ (tys:Array TypeId) (type:TypeId) (cs:Array Bool),tys.toList = ts →
    ∃ u,(builtin b tys type cs args).run P w = .ok (.value u) w ∧ VR ρ v u
theorem badB_pu {b:Builtin} {ts:List TypeId}:BuPu P g b ts badB:=fun _ _ _ _ _ h => h.elim
theorem oB_pu {α:Type} {b:Builtin} {ts:List TypeId} {x:Option α} {k:α → BuF} (h:∀ y,x = some y → BuPu P g b ts (k y)):BuPu P g b ts (oB x k):=by
 cases x with
 | none => exact badB_pu
 | some y => exact h y rfl
theorem BuOK.pure {b:Builtin} {ts:List TypeId} {x:BuF} (hx:BuPu P g b ts x):BuOK P g b ts x:=by
 intro cx l h n K hk
 obtain ⟨v,e,hv⟩:=hx cx l h n K hk
 refine ⟨v,h,n,e,fun ρ args w hE hr tys type cs ht => ?_⟩
 obtain ⟨u,h1,h2⟩:=hv ρ args w hE hr tys type cs ht
 exact ⟨u,ρ,w,h1,h2,hE,Stp.refl _ _ _ _ _⟩
theorem VRs_first {ρ:Rho}:∀ {l:List AV} {us:List Value},VRs ρ l us → (nth l 0).1 ≠ 0 → ∃ u,us[0]? = some u ∧ VR ρ (nth l 0) u
 | [],[],_,h => absurd rfl h
 | v :: l,u :: us,h,_ => ⟨u,rfl,h.1⟩
 | [],_ :: _,h,_ => h.elim
 | _ :: _,[],h,_ => h.elim
theorem head_get {ts:List TypeId} {tys:Array TypeId} {t:TypeId} (h:ts.head? = some t) (e:tys.toList = ts):tys[0]? = some t:=by
 rw [← Array.getElem?_toList,e,← List.head?_eq_getElem?]
 exact h
theorem MR_len {ρ:Rho}:∀ {l:List (AV × AV)} {r:List MapEntry},MR ρ l r → l.length = r.length
 | [],[],_ => rfl
 | _ :: l,_ :: r,h => by simp [MR_len (l:=l) (r:=r) h.2.2]
 | [],_ :: _,h => h.elim
 | _ :: _,[],h => h.elim
theorem map_of {lk:Nat} {ρ:Rho} {h:Heap} {n:Nat} {w:World} (hE:Emb g lk ρ h n w) {b:Nat} {pl:Pl} (hb:ρ b = some pl) (hr:(hget h b).1 = 3) :
  ∃ es cl,w.heap[pl.B]? = some (.map es cl) ∧ MR ρ (hget h b).5 es.toList:=by
 obtain ⟨q,q1,_,q2,_⟩:=hE.ob b (hE.bd b pl hb).1 (by rw [hr];exact fun c => by cases c)
 rw [hb] at q1
 cases q1
 exact (q2 hr).2
theorem eLen_pu {ts:List TypeId}:BuPu P g .len ts (eLen P ts):=
 oB_pu fun t ht => oB_pu fun d hd => by
  cases d with
  | string =>
   refine fun cx l h n K hk => ?_
   have hk:(isT (nat_lit 5) (nth l (nat_lit 0)) (lenK (nth l (nat_lit 0)).2 fun v => K v h n)).ok:=hk
   change ∃ v,isT (nat_lit 5) (nth l (nat_lit 0)) (lenK (nth l (nat_lit 0)).2 fun v => K v h n) = K v h n ∧ _
   obtain ⟨h1,e⟩:=isT_ok hk
   rw [e] at hk ⊢
   obtain ⟨e,hv⟩:=lenK_ok hk
   rw [e]
   refine ⟨_,rfl,fun ρ args w _ hr tys type cs hts => ?_⟩
   obtain ⟨u,hu,r⟩:=VRs_first hr (by change (nth l (nat_lit 0)).1 ≠ 0;rw [h1];exact fun c => by cases c)
   obtain ⟨s,hs,s1,_⟩:=VR_5 r h1
   have s1:s.size = (nth l (nat_lit 0)).2:=s1
   have ha:args[0]? = some u:=by simpa using hu
   refine ⟨goInt s.size,?_,by rw [s1];exact hv ρ⟩
   simp [builtin,Builtin.len_,head_get ht hts,ha,hs,run_underlying' hd]
  | slice el =>
   refine fun cx l h n K hk => ?_
   have hk:(slK (nth l (nat_lit 0)) (K (mInt (nat_lit 19) (nat_lit 0)) h n) fun v => lenK v.4.1 fun v => K v h n).ok:=hk
   change ∃ v,(slK (nth l (nat_lit 0)) (K (mInt (nat_lit 19) (nat_lit 0)) h n) fun v => lenK v.4.1 fun v => K v h n) = K v h n ∧ _
   rcases slK_ok hk with ⟨h1,e⟩ | ⟨h1,h2,e⟩
   ·rw [e] at hk ⊢
    obtain ⟨e,hv⟩:=lenK_ok hk
    rw [e]
    refine ⟨_,rfl,fun ρ args w _ hr tys type cs hts => ?_⟩
    obtain ⟨u,hu,r⟩:=VRs_first hr (by change (nth l (nat_lit 0)).1 ≠ 0;rw [h1];exact fun c => by cases c)
    obtain ⟨pl,A,cap,_,hs,_⟩:=VR_4 r h1
    have ha:args[0]? = some u:=by simpa using hu
    refine ⟨goInt (nth l 0).4.1,?_,hv ρ⟩
    simp [builtin,Builtin.len_,head_get ht hts,ha,hs,run_underlying' hd]
   ·rw [e]
    refine ⟨_,rfl,fun ρ args w _ hr tys type cs hts => ?_⟩
    obtain ⟨u,hu,r⟩:=VRs_first hr (by change (nth l (nat_lit 0)).1 ≠ 0;rw [h1];exact fun c => by cases c)
    have hs:=VR_6 r h1
    have h2:(nth l 0).2 = 1:=h2
    rw [h2] at hs
    have ha:args[0]? = some u:=by simpa using hu
    refine ⟨goInt 0,?_,VR_mInt .i64 (m:=0) (by decide)⟩
    simp [builtin,Builtin.len_,head_get ht hts,ha,hs,nilOf,run_underlying' hd]
  | map k el =>
   refine fun cx l h n K hk => ?_
   have hk:(bA (Nat.beq (nth l (nat_lit 0)).1 (nat_lit 6)) (bA (Nat.beq (nth l (nat_lit 0)).2 (nat_lit 2)) (K (mInt (nat_lit 19) (nat_lit 0)) h n) (.fail 90)) (isT (nat_lit 9) (nth l (nat_lit 0))
    (bA (Nat.beq ((heapF (nth l (nat_lit 0)).2).1 h).1 (nat_lit 3)) (fT (len ((heapF (nth l (nat_lit 0)).2).1 h).5) fun m => lenK m fun v => K v h n) (.fail 90)))).ok:=hk
   change ∃ v,(bA (Nat.beq (nth l (nat_lit 0)).1 (nat_lit 6)) (bA (Nat.beq (nth l (nat_lit 0)).2 (nat_lit 2)) (K (mInt (nat_lit 19) (nat_lit 0)) h n) (.fail 90)) (isT (nat_lit 9) (nth l (nat_lit 0))
    (bA (Nat.beq ((heapF (nth l (nat_lit 0)).2).1 h).1 (nat_lit 3)) (fT (len ((heapF (nth l (nat_lit 0)).2).1 h).5) fun m => lenK m fun v => K v h n) (.fail 90)))) = K v h n ∧ _
   by_cases h1:(nth l (nat_lit 0)).1 = 6
   ·rw [nbT h1,bA_true] at hk ⊢
    obtain ⟨h2,e⟩:=bA_ok hk
    rw [e]
    refine ⟨_,rfl,fun ρ args w _ hr tys type cs hts => ?_⟩
    obtain ⟨u,hu,r⟩:=VRs_first hr (by change (nth l (nat_lit 0)).1 ≠ 0;rw [h1];exact fun c => by cases c)
    have hs:=VR_6 r h1
    have h2:(nth l 0).2 = 2:=Nat.eq_of_beq_eq_true h2
    rw [h2] at hs
    have ha:args[0]? = some u:=by simpa using hu
    refine ⟨goInt 0,?_,VR_mInt .i64 (m:=0) (by decide)⟩
    simp [builtin,Builtin.len_,head_get ht hts,ha,hs,nilOf,run_underlying' hd]
   ·rw [nbF h1,bA_false,heapF_get] at hk ⊢
    obtain ⟨h2,e⟩:=isT_ok hk
    rw [e] at hk ⊢
    obtain ⟨h3,e⟩:=bA_ok hk
    rw [e,fT_eq] at hk ⊢
    obtain ⟨e,hv⟩:=lenK_ok hk
    rw [e]
    refine ⟨_,rfl,fun ρ args w hE hr tys type cs hts => ?_⟩
    obtain ⟨u,hu,r⟩:=VRs_first hr (by change (nth l (nat_lit 0)).1 ≠ 0;rw [h2];exact fun c => by cases c)
    obtain ⟨pl,hp,hs⟩:=VR_9 r h2
    have ha:args[0]? = some u:=by simpa using hu
    have h3:(hget h (nth l 0).2).1 = 3:=Nat.eq_of_beq_eq_true h3
    obtain ⟨es,cl,hw,hm⟩:=map_of hE hp h3
    have hl:len (hget h (nth l (nat_lit 0)).2).5 = es.size:=by
     rw [len_eq]
     have:=MR_len hm
     simpa using this
    refine ⟨goInt es.size,?_,by rw [← hl];exact hv ρ⟩
    have hg:(getObj pl.B).run P w = .ok (.map es cl) w:=by simp [getObj,Sem.run,hw]
    simp [builtin,Builtin.len_,head_get ht hts,ha,hs,run_underlying' hd,hg]
  | _ => exact badB_pu
theorem eLen_ok {ts:List TypeId}:BuOK P g .len ts (eLen P ts):=.pure eLen_pu
theorem eCap_pu {ts:List TypeId}:BuPu P g .cap ts (eCap P ts):=
 oB_pu fun t ht => oB_pu fun d hd => by
  cases d with
  | slice el =>
   refine fun cx l h n K hk => ?_
   have hk:(slK (nth l (nat_lit 0)) (K (mInt (nat_lit 19) (nat_lit 0)) h n) fun v => bA (Nat.beq v.4.3 (nat_lit 0)) (lenK v.4.2 fun v => K v h n) (.fail 86)).ok:=hk
   change ∃ v,(slK (nth l (nat_lit 0)) (K (mInt (nat_lit 19) (nat_lit 0)) h n) fun v => bA (Nat.beq v.4.3 (nat_lit 0)) (lenK v.4.2 fun v => K v h n) (.fail 86)) = K v h n ∧ _
   rcases slK_ok hk with ⟨h1,e⟩ | ⟨h1,h2,e⟩
   ·rw [e] at hk ⊢
    obtain ⟨h2,e⟩:=bA_ok hk
    rw [e] at hk ⊢
    obtain ⟨e,hv⟩:=lenK_ok hk
    rw [e]
    refine ⟨_,rfl,fun ρ args w _ hr tys type cs hts => ?_⟩
    obtain ⟨u,hu,r⟩:=VRs_first hr (by change (nth l (nat_lit 0)).1 ≠ 0;rw [h1];exact fun c => by cases c)
    obtain ⟨pl,A,cap,_,hs,c1,_⟩:=VR_4 r h1
    have hc:cap = (nth l 0).4.2:=c1 (Nat.eq_of_beq_eq_true h2)
    have ha:args[0]? = some u:=by simpa using hu
    refine ⟨goInt cap,?_,by rw [hc];exact hv ρ⟩
    simp [builtin,Builtin.cap_,head_get ht hts,ha,hs,run_underlying' hd]
   ·rw [e]
    refine ⟨_,rfl,fun ρ args w _ hr tys type cs hts => ?_⟩
    obtain ⟨u,hu,r⟩:=VRs_first hr (by change (nth l (nat_lit 0)).1 ≠ 0;rw [h1];exact fun c => by cases c)
    have hs:=VR_6 r h1
    have h2:(nth l 0).2 = 1:=h2
    rw [h2] at hs
    have ha:args[0]? = some u:=by simpa using hu
    refine ⟨goInt 0,?_,VR_mInt .i64 (m:=0) (by decide)⟩
    simp [builtin,Builtin.cap_,head_get ht hts,ha,hs,nilOf,run_underlying' hd]
  | _ => exact badB_pu
theorem eCap_ok {ts:List TypeId}:BuOK P g .cap ts (eCap P ts):=.pure eCap_pu
theorem two_ints {ρ:Rho} {l:List AV} {args:Array Value} (hr:VRs ρ l args.toList) (hl:l.length = 2) (h1:(nth l 0).1 = 19) (h2:(nth l 1).1 = 19) :
  args.toList = [.int .i64 (toI .i64 (nth l 0).2),.int .i64 (toI .i64 (nth l 1).2)] ∧ VR ρ (nth l 0) (.int .i64 (toI .i64 (nth l 0).2)) ∧ VR ρ (nth l 1) (.int .i64 (toI .i64 (nth l 1).2)) ∧ (nth l 0).2 < md .i64 ∧ (nth l 1).2 < md .i64:=by
 obtain ⟨u,u',e,r1,r2⟩:=VRs_two hr hl
 obtain ⟨a1,a2⟩:=VR_i (k:=.i64) r1 h1
 obtain ⟨b1,b2⟩:=VR_i (k:=.i64) r2 h2
 subst a2
 subst b2
 exact ⟨e,r1,r2,a1,b1⟩
end EV
end
noncomputable section
namespace EV
open Go
variable {P:Program} {g:Nat}
theorem eMin_pu {ts:List TypeId}:BuPu P g .min ts eMin:=
 fun cx l h n K hk => by
  have hk:(isT (nat_lit 19) (nth l (nat_lit 0)) (isT (nat_lit 19) (nth l (nat_lit 1)) (bA (Nat.beq (len l) (nat_lit 2)) (bA (ltI (nat_lit 18446744073709551616) (nat_lit 9223372036854775808) (nth l (nat_lit 1)).2 (nth l (nat_lit 0)).2) (K (nth l (nat_lit 1)) h n) (K (nth l (nat_lit 0)) h n)) (.fail 87)))).ok:=hk
  change ∃ v,isT (nat_lit 19) (nth l (nat_lit 0)) (isT (nat_lit 19) (nth l (nat_lit 1)) (bA (Nat.beq (len l) (nat_lit 2)) (bA (ltI (nat_lit 18446744073709551616) (nat_lit 9223372036854775808) (nth l (nat_lit 1)).2 (nth l (nat_lit 0)).2) (K (nth l (nat_lit 1)) h n) (K (nth l (nat_lit 0)) h n)) (.fail 87))) = K v h n ∧ _
  obtain ⟨h1,e⟩:=isT_ok hk
  rw [e] at hk ⊢
  obtain ⟨h2,e⟩:=isT_ok hk
  rw [e] at hk ⊢
  obtain ⟨h3,e⟩:=bA_ok hk
  rw [e]
  rw [len_eq] at h3
  have h3:=Nat.eq_of_beq_eq_true h3
  have run:∀ (ρ:Rho) (args:Array Value) (w:World),VRs ρ l args.toList → ∀ (tys:Array TypeId) (type:TypeId) (cs:Array Bool),
    (builtin .min tys type cs args).run P w = .ok (.value (.int .i64 (if toI .i64 (nth l 1).2 < toI .i64 (nth l 0).2 then toI .i64 (nth l 1).2 else toI .i64 (nth l 0).2))) w ∧
    ltI 18446744073709551616 9223372036854775808 (nth l 1).2 (nth l 0).2 = decide (toI .i64 (nth l 1).2 < toI .i64 (nth l 0).2) ∧ VR ρ (nth l 0) (.int .i64 (toI .i64 (nth l 0).2)) ∧ VR ρ (nth l 1) (.int .i64 (toI .i64 (nth l 1).2)):=fun ρ args w hr tys type cs => by
   obtain ⟨e,r1,r2,b1,b2⟩:=two_ints hr h3 h1 h2
   refine ⟨?_,ltI_toI (k:=.i64) b2 b1,r1,r2⟩
   simp [builtin,Builtin.min_,e,Builtin.min2]
  cases hb:ltI (nat_lit 18446744073709551616) (nat_lit 9223372036854775808) (nth l (nat_lit 1)).2 (nth l (nat_lit 0)).2 with
  | true =>
   refine ⟨_,rfl,fun ρ args w hE hr tys type cs _ => ?_⟩
   obtain ⟨a1,a2,a3,a4⟩:=run ρ args w hr tys type cs
   have a2:true = decide (toI .i64 (nth l 1).2 < toI .i64 (nth l 0).2):=hb.symm.trans a2
   rw [if_pos (of_decide_eq_true a2.symm)] at a1
   exact ⟨_,a1,a4⟩
  | false =>
   refine ⟨_,rfl,fun ρ args w hE hr tys type cs _ => ?_⟩
   obtain ⟨a1,a2,a3,a4⟩:=run ρ args w hr tys type cs
   have a2:false = decide (toI .i64 (nth l 1).2 < toI .i64 (nth l 0).2):=hb.symm.trans a2
   rw [if_neg (of_decide_eq_false a2.symm)] at a1
   exact ⟨_,a1,a3⟩
theorem eMin_ok {ts:List TypeId}:BuOK P g .min ts eMin:=.pure eMin_pu
theorem eMax_pu {ts:List TypeId}:BuPu P g .max ts eMax:=
 fun cx l h n K hk => by
  have hk:(isT (nat_lit 19) (nth l (nat_lit 0)) (isT (nat_lit 19) (nth l (nat_lit 1)) (bA (Nat.beq (len l) (nat_lit 2)) (bA (ltI (nat_lit 18446744073709551616) (nat_lit 9223372036854775808) (nth l (nat_lit 0)).2 (nth l (nat_lit 1)).2) (K (nth l (nat_lit 1)) h n) (K (nth l (nat_lit 0)) h n)) (.fail 87)))).ok:=hk
  change ∃ v,isT (nat_lit 19) (nth l (nat_lit 0)) (isT (nat_lit 19) (nth l (nat_lit 1)) (bA (Nat.beq (len l) (nat_lit 2)) (bA (ltI (nat_lit 18446744073709551616) (nat_lit 9223372036854775808) (nth l (nat_lit 0)).2 (nth l (nat_lit 1)).2) (K (nth l (nat_lit 1)) h n) (K (nth l (nat_lit 0)) h n)) (.fail 87))) = K v h n ∧ _
  obtain ⟨h1,e⟩:=isT_ok hk
  rw [e] at hk ⊢
  obtain ⟨h2,e⟩:=isT_ok hk
  rw [e] at hk ⊢
  obtain ⟨h3,e⟩:=bA_ok hk
  rw [e]
  rw [len_eq] at h3
  have h3:=Nat.eq_of_beq_eq_true h3
  have run:∀ (ρ:Rho) (args:Array Value) (w:World),VRs ρ l args.toList → ∀ (tys:Array TypeId) (type:TypeId) (cs:Array Bool),
    (builtin .max tys type cs args).run P w = .ok (.value (.int .i64 (if toI .i64 (nth l 0).2 < toI .i64 (nth l 1).2 then toI .i64 (nth l 1).2 else toI .i64 (nth l 0).2))) w ∧
    ltI 18446744073709551616 9223372036854775808 (nth l 0).2 (nth l 1).2 = decide (toI .i64 (nth l 0).2 < toI .i64 (nth l 1).2) ∧ VR ρ (nth l 0) (.int .i64 (toI .i64 (nth l 0).2)) ∧ VR ρ (nth l 1) (.int .i64 (toI .i64 (nth l 1).2)):=fun ρ args w hr tys type cs => by
   obtain ⟨e,r1,r2,b1,b2⟩:=two_ints hr h3 h1 h2
   refine ⟨?_,ltI_toI (k:=.i64) b1 b2,r1,r2⟩
   simp [builtin,Builtin.max_,e,Builtin.max2]
  cases hb:ltI (nat_lit 18446744073709551616) (nat_lit 9223372036854775808) (nth l (nat_lit 0)).2 (nth l (nat_lit 1)).2 with
  | true =>
   refine ⟨_,rfl,fun ρ args w hE hr tys type cs _ => ?_⟩
   obtain ⟨a1,a2,a3,a4⟩:=run ρ args w hr tys type cs
   have a2:true = decide (toI .i64 (nth l 0).2 < toI .i64 (nth l 1).2):=hb.symm.trans a2
   rw [if_pos (of_decide_eq_true a2.symm)] at a1
   exact ⟨_,a1,a4⟩
  | false =>
   refine ⟨_,rfl,fun ρ args w hE hr tys type cs _ => ?_⟩
   obtain ⟨a1,a2,a3,a4⟩:=run ρ args w hr tys type cs
   have a2:false = decide (toI .i64 (nth l 0).2 < toI .i64 (nth l 1).2):=hb.symm.trans a2
   rw [if_neg (of_decide_eq_false a2.symm)] at a1
   exact ⟨_,a1,a3⟩
theorem eMax_ok {ts:List TypeId}:BuOK P g .max ts eMax:=.pure eMax_pu
theorem eSliceData_pu {ts:List TypeId}:BuPu P g .unsafeSliceData ts eSliceData:=
 fun cx l h n K hk => by
  have hk:(bA (Nat.beq (len l) (nat_lit 1)) (slK (nth l (nat_lit 0)) (K (mNil (nat_lit 0)) h n) fun v => bA (Nat.beq v.4.2 (nat_lit 0)) (.fail 88) (K (mPtr v.2 v.3) h n)) (.fail 88)).ok:=hk
  change ∃ v,bA (Nat.beq (len l) (nat_lit 1)) (slK (nth l (nat_lit 0)) (K (mNil (nat_lit 0)) h n) fun v => bA (Nat.beq v.4.2 (nat_lit 0)) (.fail 88) (K (mPtr v.2 v.3) h n)) (.fail 88) = K v h n ∧ _
  obtain ⟨h0,e⟩:=bA_ok hk
  rw [e] at hk ⊢
  rw [len_eq] at h0
  have h0:=Nat.eq_of_beq_eq_true h0
  rcases slK_ok hk with ⟨h1,e⟩ | ⟨h1,h2,e⟩
  ·rw [e] at hk ⊢
   obtain ⟨h2,e⟩:=bA_ok' hk
   rw [e]
   refine ⟨_,rfl,fun ρ args w hE hr tys type cs _ => ?_⟩
   obtain ⟨u,hu,r⟩:=VRs_one hr h0
   have ha:args = #[u]:=by rw [← Array.toArray_toList (xs:=args),hu]
   obtain ⟨pl,A,cap,hp,hs,c1,c2,c3,c4⟩:=VR_4 r h1
   have h2:(nth l 0).4.2 ≠ 0:=fun c => by rw [nbT c] at h2;cases h2
   have hcap:cap ≠ 0:=by
    by_cases z:(nth l 0).4.3 = 0
    ·rw [c1 z];exact h2
    ·have:=(c2 z).1;omega
   have hA:=c3.resolve_right hcap
   subst hA
   refine ⟨.pointer (some ⟨pl.B,pl.o + (nth l 0).3,none⟩),?_,VR_mPtr hp⟩
   have:=Lib.run_unsafeSliceData_row (P:=P) w tys type ⟨pl.B,pl.o + (nth l 0).3,none⟩ (nth l 0).4.1 cap hcap
   simp [builtin,ha,hs,this]
  ·rw [e]
   refine ⟨_,rfl,fun ρ args w hE hr tys type cs _ => ?_⟩
   obtain ⟨u,hu,r⟩:=VRs_one hr h0
   have ha:args = #[u]:=by rw [← Array.toArray_toList (xs:=args),hu]
   have hs:=VR_6 r h1
   have h2:(nth l 0).2 = 1:=h2
   rw [h2] at hs
   refine ⟨.pointer none,?_,rfl⟩
   have:=Lib.run_unsafeSliceData_nil (P:=P) w tys type 0 0
   simp [builtin,ha,hs,nilOf,this]
theorem eSliceData_ok {ts:List TypeId}:BuOK P g .unsafeSliceData ts eSliceData:=.pure eSliceData_pu
end EV
end
noncomputable section
namespace EV
open Go
variable {P:Program} {g:Nat}
theorem lies_many (hD:DepthOK P) {e:TypeId} (hc:P.cellsOf e = 1) {count off n:Nat} (hn:off + n ≤ count):liesAt P P.depth e (count / P.cellsOf e) off e n = true:=by
 obtain ⟨d,hd⟩:∃ d,P.depth = d + 1:=⟨P.depth - 1,by have:0 < P.depth:=hD;omega⟩
 have h1:(1:Nat) ≠ 0:=by decide
 rw [hc,hd]
 simp only [liesAt,rowAt,hd,hc,h1,if_false,Nat.mod_one,Nat.div_one,beq_self_eq_true,sameLayout,Bool.true_or,Bool.and_true,Bool.true_and,Bool.or_eq_true]
 left;left
 simpa using hn
theorem run_uString (hD:DepthOK P) {w:World} {tys:Array TypeId} {pt ty e:TypeId} (ht:tys[0]? = some pt) (hp:P.underlying pt = some (.pointer e)) (hc:P.cellsOf e = 1) {B off cells:Nat} (hsh:w.shape? B = some (e,cells)) (k:IntKind) (l:List UInt8) (h0:l ≠ [])
  (hn:off + l.length ≤ cells) (h63:l.length ≤ 9223372036854775807) (hcell:∀ j x,l[j]? = some x → w.cell? ⟨B,off + j,none⟩ = some (.int .u8 x.toNat)) :
  (Builtin.unsafeString_ tys ty #[.pointer (some ⟨B,off,none⟩),.int k l.length]).run P w = .ok (.string ⟨l.toArray⟩) (w.freeze ⟨B,off,none⟩ l.length):=by
 have hl:l.length ≠ 0:=by simpa using h0
 have hlb:=Lib.run_loadBytes (P:=P) w l ⟨B,off,none⟩ .empty (fun j x hx => by rw [addr_add];exact hcell j x hx)
 have hlies:=lies_many hD hc hn
 have h63':¬ (9223372036854775807:Int) < (l.length:Int):=by omega
 have hdef:Builtin.unsafeString_ tys ty #[.pointer (some ⟨B,off,none⟩),.int k l.length] =
   (do
    let n ← asInt (.int k l.length)
    let some pt:=tys[0]? | stuck "unsafe.String: no argument types"
    if n < 0 then runtimePanic (.error "unsafe.String: len out of range")
    if n > IntKind.i64.max then unsupported (.unsafePointer "String: a length above the largest int")
    if n = 0 then pure (.string .empty)
    else if ← variablesAt ⟨B,off,none⟩ (← elemOf pt) n.toNat then do
     let s ← loadBytes ⟨B,off,none⟩ .empty n.toNat
     freeze ⟨B,off,none⟩ n.toNat
     pure (.string s)
    else unsupported (.unsafePointer "String: not so many bytes at ptr")):=rfl
 rw [hdef]
 have hmax:IntKind.i64.max = 9223372036854775807:=rfl
 have hneg:¬ (l.length:Int) < 0:=by omega
 simp [asInt,asIntOf,ht,hmax,h63',hneg,hl,variablesAt,hsh,elemOf,run_underlying hp,hlies,hlb]
theorem run_uString0 {w:World} {tys:Array TypeId} {pt ty:TypeId} (ht:tys[0]? = some pt) (k:IntKind) (p:Option Addr):(Builtin.unsafeString_ tys ty #[.pointer p,.int k 0]).run P w = .ok (.string .empty) w:=by
 have hmax:IntKind.i64.max = 9223372036854775807:=rfl
 cases p with
 | none =>
  have hdef:Builtin.unsafeString_ tys ty #[.pointer none,.int k 0] =
    (do
     let n ← asInt (.int k 0)
     let some _:=tys[0]? | stuck "unsafe.String: no argument types"
     if n < 0 then runtimePanic (.error "unsafe.String: len out of range")
     if n > IntKind.i64.max then unsupported (.unsafePointer "String: a length above the largest int")
     if n = 0 then pure (.string .empty)
     else runtimePanic (.error "unsafe.String: ptr is nil and len is not zero")):=rfl
  rw [hdef]
  simp [asInt,asIntOf,ht,hmax]
 | some a =>
  have hdef:Builtin.unsafeString_ tys ty #[.pointer (some a),.int k 0] =
    (do
     let n ← asInt (.int k 0)
     let some pt:=tys[0]? | stuck "unsafe.String: no argument types"
     if n < 0 then runtimePanic (.error "unsafe.String: len out of range")
     if n > IntKind.i64.max then unsupported (.unsafePointer "String: a length above the largest int")
     if n = 0 then pure (.string .empty)
     else if ← variablesAt a (← elemOf pt) n.toNat then do
      let s ← loadBytes a .empty n.toNat
      freeze a n.toNat
      pure (.string s)
     else unsupported (.unsafePointer "String: not so many bytes at ptr")):=rfl
  rw [hdef]
  simp [asInt,asIntOf,ht,hmax]
theorem freeze_rest (w:World) (a:Addr) (n:Nat):(w.freeze a n).heap.size = w.heap.size ∧ (w.freeze a n).os = w.os ∧ (w.freeze a n).tape = w.tape ∧ (w.freeze a n).output = w.output ∧ ∀ k,k ≠ a.block → (w.freeze a n).heap[k]? = w.heap[k]?:=by
 unfold World.freeze
 by_cases h:n = 0
 ·simp [h]
 ·rw [if_neg h]
  refine ⟨by simp,rfl,rfl,rfl,fun k hk => ?_⟩
  simp [Array.getElem?_modify,Ne.symm hk]
theorem freeze_cells (w:World) (a:Addr) (n B:Nat):(w.freeze a n).shape? B = w.shape? B ∧ ∀ i,(w.freeze a n).cell? ⟨B,i,none⟩ = w.cell? ⟨B,i,none⟩:=by
 unfold World.freeze
 by_cases h:n = 0
 ·simp [h]
 ·rw [if_neg h]
  by_cases hb:a.block = B
  ·subst hb
   unfold World.shape? World.cell?
   simp only [Array.getElem?_modify,if_true]
   cases w.heap[a.block]? with
   | none => exact ⟨rfl,fun _ => rfl⟩
   | some o => cases o <;> exact ⟨rfl,fun _ => rfl⟩
  ·unfold World.shape? World.cell?
   simp [Array.getElem?_modify,hb]
theorem eUString_ok (hD:DepthOK P) {ts:List TypeId}:BuOK P g .unsafeString ts (eUString P ts):=
 oB_ok fun t ht => oB_ok fun d hd => by
  cases d with
  | pointer e =>
   refine oB_ok fun de hde => oB_ok fun s hs => ?_
   cases h8:isU8 de with
   | false => exact badB_ok
   | true =>
    cases hs1:Nat.beq s (nat_lit 1) with
    | false => exact badB_ok
    | true =>
     have hs1:s = 1:=Nat.eq_of_beq_eq_true hs1
     subst hs1
     obtain ⟨ie,hie,his⟩:=szOf_info hs
     have hc:P.cellsOf e = 1:=by simp [Program.cellsOf,hie,his]
     intro cx l h n K hk
     have hk:(bA (Nat.beq (len l) (nat_lit 2)) (natK (nth l (nat_lit 1)) fun m => bA (Nat.beq m (nat_lit 0))
      (bA (Nat.beq (nth l (nat_lit 0)).1 (nat_lit 3)) (K (mStr (nat_lit 0) (nat_lit 0)) h n) (isT (nat_lit 6) (nth l (nat_lit 0)) (bA (Nat.beq (nth l (nat_lit 0)).2 (nat_lit 0)) (K (mStr (nat_lit 0) (nat_lit 0)) h n) (.fail 89))))
      (uStrK e cx.1 (nth l (nat_lit 0)) m h n K)) (.fail 89)).ok:=hk
     change ∃ v h' n',bA (Nat.beq (len l) (nat_lit 2)) (natK (nth l (nat_lit 1)) fun m => bA (Nat.beq m (nat_lit 0))
      (bA (Nat.beq (nth l (nat_lit 0)).1 (nat_lit 3)) (K (mStr (nat_lit 0) (nat_lit 0)) h n) (isT (nat_lit 6) (nth l (nat_lit 0)) (bA (Nat.beq (nth l (nat_lit 0)).2 (nat_lit 0)) (K (mStr (nat_lit 0) (nat_lit 0)) h n) (.fail 89))))
      (uStrK e cx.1 (nth l (nat_lit 0)) m h n K)) (.fail 89) = K v h' n' ∧ _
     obtain ⟨h0,e1⟩:=bA_ok hk
     rw [e1] at hk ⊢
     rw [len_eq] at h0
     have h0:=Nat.eq_of_beq_eq_true h0
     obtain ⟨h1,e1⟩:=natK_ok hk
     rw [e1] at hk ⊢
     have two:∀ (ρ:Rho) (args:Array Value),VRs ρ l args.toList → ∃ u k,args = #[u,.int k ((nth l 1).2:Int)] ∧ VR ρ (nth l 0) u:=fun ρ args hr => by
      obtain ⟨u,u',e,r1,r2⟩:=VRs_two hr h0
      obtain ⟨k,hu,_⟩:=natV r2 h1
      exact ⟨u,k,by rw [← Array.toArray_toList (xs:=args),e,hu],r1⟩
     by_cases hm:(nth l (nat_lit 1)).2 = 0
     ·rw [nbT hm,bA_true] at hk ⊢
      have hm:(nth l 1).2 = 0:=hm
      have fin:∀ (ρ:Rho) (args:Array Value) (w:World),Emb g cx.1 ρ h n w → ∀ (tys:Array TypeId) (type:TypeId) (cs:Array Bool),tys.toList = ts → ∀ k p,args = #[.pointer p,.int k ((nth l 1).2:Int)] →
        ∃ u ρ' w',(builtin .unsafeString tys type cs args).run P w = .ok (.value u) w' ∧ VR ρ' (mStr 0 0) u ∧ Emb g cx.1 ρ' h n w' ∧ Stp cx.1 ρ h n w ρ' h n w':=fun ρ args w hE tys type cs hts k p ha => by
       refine ⟨.string .empty,ρ,w,?_,VR_bytes (bs:=[]) rfl rfl,hE,Stp.refl _ _ _ _ _⟩
       have:=run_uString0 (P:=P) (w:=w) (ty:=type) (head_get ht hts) k p
       rw [hm] at ha
       simp [builtin,ha,this]
      by_cases h3:(nth l (nat_lit 0)).1 = 3
      ·rw [nbT h3,bA_true]
       refine ⟨_,_,_,rfl,fun ρ args w hE hr tys type cs hts => ?_⟩
       obtain ⟨u,k,ha,r⟩:=two ρ args hr
       obtain ⟨pl,_,hu⟩:=VR_3 r h3
       exact fin ρ args w hE tys type cs hts k _ (by rw [ha,hu])
      ·rw [nbF h3,bA_false] at hk ⊢
       obtain ⟨h6,e1⟩:=isT_ok hk
       rw [e1] at hk ⊢
       obtain ⟨h7,e1⟩:=bA_ok hk
       rw [e1]
       refine ⟨_,_,_,rfl,fun ρ args w hE hr tys type cs hts => ?_⟩
       obtain ⟨u,k,ha,r⟩:=two ρ args hr
       have hu:=VR_6 r h6
       have h7:(nth l 0).2 = 0:=Nat.eq_of_beq_eq_true h7
       rw [h7] at hu
       exact fin ρ args w hE tys type cs hts k none (by rw [ha,hu];rfl)
     ·rw [nbF hm,bA_false] at hk ⊢
      unfold uStrK at hk ⊢
      obtain ⟨h3,e1⟩:=isT_ok hk
      rw [e1] at hk ⊢
      obtain ⟨h4,e1⟩:=bA_ok hk
      rw [e1] at hk ⊢
      obtain ⟨hr,e1⟩:=rowOf_ok hk
      rw [e1] at hk ⊢
      obtain ⟨h5,e1⟩:=bA_ok hk
      rw [e1] at hk ⊢
      obtain ⟨h6,e1⟩:=bA_ok hk
      rw [e1,getN_eq] at hk ⊢
      obtain ⟨h20,e1⟩:=natL_ok hk
      rw [e1,heapF_put]
      refine ⟨_,_,_,rfl,fun ρ args w hE hra tys type cs hts => ?_⟩
      obtain ⟨u,k,ha,r⟩:=two ρ args hra
      obtain ⟨pl,hp,hu⟩:=VR_3 r h3
      have h5:(hget h (nth l 0).2).2 = e:=Nat.eq_of_beq_eq_true h5
      obtain ⟨h6,h62⟩:Nat.ble (Nat.add (nth l 0).3 (nth l 1).2) (hget h (nth l 0).2).3 = true ∧ Nat.ble (hget h (nth l 0).2).1 2 = true:=by
       cases c:Nat.ble (Nat.add (nth l 0).3 (nth l 1).2) (hget h (nth l 0).2).3 with
       | false => rw [c] at h6;cases h6
       | true => rw [c] at h6;exact ⟨rfl,h6⟩
      have h6:(nth l 0).3 + (nth l 1).2 ≤ (hget h (nth l 0).2).3:=Nat.le_of_ble_eq_true h6
      have hnot5:(hget h (nth l 0).2).1 ≠ 5:=fun c => by rw [c] at h62;cases h62
      obtain ⟨sh,le1,le2,hcell,fz⟩:=row_of hE hp hr
      obtain ⟨us,g1,g2,_,g4⟩:=cells_list hcell (nth l 1).2 (nth l 0).3 h6
      obtain ⟨bs,b1,b2⟩:=natL_cells g4 h20
      have hlen:bs.length = (nth l 1).2:=by rw [← g1,b1,List.length_map]
      have hM:maxCells = 32768:=rfl
      have hlive:(hget h (nth l 0).2).1 ≠ 0:=by rcases isRow_tag hr with e | e | e <;> rw [e] <;> decide
      obtain ⟨q,q1,q2,_⟩:=hE.ob _ (hE.bd _ _ hp).1 hlive
      rw [hp] at q1
      cases q1
      obtain ⟨z,y1,y2,y3,y4,y5⟩:=q2 hr
      obtain ⟨f1,f2,f3,f4,f5⟩:=freeze_rest w ⟨pl.B,pl.o + (nth l 0).3,none⟩ bs.length
      rw [h5] at sh
      have hrun:=run_uString hD (w:=w) (ty:=type) (head_get ht hts) hd hc sh k bs (by intro c;rw [c] at hlen;exact hm hlen.symm) (by omega) (by omega) (fun j x hx => g2 j _ (by rw [b1];simp [hx]))
      refine ⟨.string ⟨bs.toArray⟩,ρ,_,?_,VR_bytes hlen (by rw [b2]),hE.write hp (Nat.le_of_ble_eq_true h4) hlive hnot5 (by exact fun c => by cases c) (fun _ => ⟨fun _ => ⟨z,?_,y2,y3,fun i hi => ?_,fun c => (by rcases c with c | c <;> cases c)⟩,fun c => ?_,fun c => ?_⟩) f1 f5,Stp.write hE hp (Nat.le_of_ble_eq_true h4) hlive f2 f3 f4 f1 f5⟩
      ·rw [← hlen] at ha
       simp only [builtin,ha,hu,Sem.run_bind,hrun,Result.andThen_ok,Sem.run_pure]
      ·rw [(freeze_cells w ⟨pl.B,pl.o + (nth l 0).3,none⟩ bs.length pl.B).1]
       exact y1
      ·obtain ⟨v,v1,v2⟩:=y4 i hi
       exact ⟨v,by rw [(freeze_cells w ⟨pl.B,pl.o + (nth l 0).3,none⟩ bs.length pl.B).2];exact v1,v2⟩
      ·cases c
      ·cases c
  | _ => exact badB_ok
end EV
end
noncomputable section
namespace EV
open Go
variable {P:Program} {g:Nat}
structure App (P:Program) (t t2 e:TypeId) (i:TypeInfo) (z x:Value) (m:Nat) (news:List Value) (w:World):Prop where
 newsLen:news.length = m * i.size
 one:∀ u ∈ news,u.oneCell' = true
 nothing:m = 0 → ∀ (ty:TypeId) (base:Option Addr) (sLen sCap:Nat),sLen ≤ sCap → (Builtin.append_ #[t,t2] ty #[.slice base sLen sCap,x]).run P w = .ok (.slice base sLen sCap) w
 room:∀ (ty:TypeId) (b off sLen sCap:Nat),sLen + m ≤ sCap → (∀ j,j < news.length → (w.cell? ⟨b,off + sLen * i.size + j,none⟩).isSome = true) → (∀ j,j < news.length → w.frozen? ⟨b,off + sLen * i.size + j,none⟩ = false) →
  (Builtin.append_ #[t,t2] ty #[.slice (some ⟨b,off,none⟩) sLen sCap,x]).run P w = .ok (.slice (some ⟨b,off,none⟩) (sLen + m) sCap) (w.setCells b (off + sLen * i.size) news)
 grow:∀ (ty:TypeId) (base:Option Addr) (sLen sCap:Nat) (olds:List Value),(Builtin.firstCells i.size sLen (.slice base sLen sCap)).run P w.drew = .ok olds.toArray w.drew → sCap < sLen + m →
  ((sLen + m:Nat):Int) ≤ 9223372036854775807 → Builtin.nextslicecap (sLen + m) sCap * i.bytes ≤ 281474976710656 →
  (Builtin.append_ #[t,t2] ty #[.slice base sLen sCap,x]).run P w = .ok (.slice (some ⟨w.heap.size,0,none⟩) (sLen + m) (grownCap w (sLen + m) sCap e))
   (w.drew.alloc (.cells ((olds ++ news).toArray ++ Builtin.zeroCells z.cells (grownCap w (sLen + m) sCap e - (sLen + m))) e))
theorem App.ofSrc {t t2 e:TypeId} {i:TypeInfo} {z x:Value} {m:Nat} {news:List Value} {w:World} (ht:P.underlying t = some (.slice e)) (hi:P.info? e = some i) (hz:i.zero = some z) (hs:Src P i.size t2 x m news w):App P t t2 e i z x m news w:=
 ⟨hs.newsLen,hs.one,fun h0 ty base sLen sCap hle => by
  subst h0
  have hn:news = []:=List.length_eq_zero_iff.1 (by rw [hs.newsLen,Nat.zero_mul])
  subst hn
  exact run_append_nothing w t t2 ty e i ht hi base sLen sCap hle x hs,
  fun ty b off sLen sCap h1 h2 h3 => run_append_room_src w t t2 ty e i ht hi b off sLen sCap x m news hs h1 h2 h3,
  fun ty base sLen sCap olds h1 h2 h3 h4 => run_append_grow_src w t t2 ty e i z ht hi hz base sLen sCap olds h1 x m news hs h2 h3 h4⟩
def NwOK (P:Program) (g:Nat) (t t2 e:TypeId) (i:TypeInfo) (z:Value) (x:NwF):Prop:=
 ∀ (v:AV) (h:Heap) (k:Nat → List AV → Ans),(x.1 v h k).ok → ∃ m news,x.1 v h k = k m news ∧ news.length = m * i.size ∧
  ∀ (ρ:Rho) (lk n:Nat) (w:World) (u:Value),Emb g lk ρ h n w → VR ρ v u → ∃ us,VRs ρ news us ∧ App P t t2 e i z u m us w
theorem badW_ok {t t2 e:TypeId} {i:TypeInfo} {z:Value}:NwOK P g t t2 e i z badW:=fun _ _ _ h => h.elim
theorem getL_length (n o:Nat) (c:Cells):(getL n o c).length = n:=by simp [getL]
theorem nwCells_ok {t t2 e e2:TypeId} {i:TypeInfo} {z:Value} (ht:P.underlying t = some (.slice e)) (hi:P.info? e = some i) (hz:i.zero = some z) (h2:P.underlying t2 = some (.slice e2)):NwOK P g t t2 e i z (nwCells i.size):=by
 intro v h k hk
 have hk:(slK v (k (nat_lit 0) []) fun v => bA (Nat.beq v.4.1 (nat_lit 0)) (k (nat_lit 0) []) (rowOf h v.2 fun r => bA (Nat.ble (Nat.add v.3 (Nat.mul v.4.1 i.size)) r.3) (getN (Nat.mul v.4.1 i.size) v.3 r.4 fun cs => k v.4.1 cs) (.fail 55))).ok:=hk
 change ∃ m news,(slK v (k (nat_lit 0) []) fun v => bA (Nat.beq v.4.1 (nat_lit 0)) (k (nat_lit 0) []) (rowOf h v.2 fun r => bA (Nat.ble (Nat.add v.3 (Nat.mul v.4.1 i.size)) r.3) (getN (Nat.mul v.4.1 i.size) v.3 r.4 fun cs => k v.4.1 cs) (.fail 55))) = k m news ∧ _
 rcases slK_ok hk with ⟨h1,e1⟩ | ⟨h1,h3,e1⟩
 ·rw [e1] at hk ⊢
  by_cases h0:v.4.1 = 0
  ·rw [nbT h0,bA_true]
   refine ⟨_,_,rfl,(Nat.zero_mul _).symm,fun ρ lk n w u hE hv => ?_⟩
   obtain ⟨pl,A,cap,_,hu,_⟩:=VR_4 hv h1
   rw [h0] at hu
   exact ⟨[],trivial,hu ▸ App.ofSrc ht hi hz (Src.ofSlice w h2 A 0 cap [] (by simp) (by simp) (by simp))⟩
  ·rw [nbF h0,bA_false] at hk ⊢
   obtain ⟨hr,e1⟩:=rowOf_ok hk
   rw [e1] at hk ⊢
   obtain ⟨hb,e1⟩:=bA_ok hk
   rw [e1,getN_eq]
   refine ⟨_,_,rfl,getL_length _ _ _,fun ρ lk n w u hE hv => ?_⟩
   obtain ⟨pl,A,cap,hp,hu,c1,c2,c3,c4⟩:=VR_4 hv h1
   have hA:A = ⟨pl.B,pl.o + v.3,none⟩:=c3.resolve_right (by omega)
   subst hA
   obtain ⟨_,_,_,hcell,_⟩:=row_of hE hp hr
   obtain ⟨us,g1,g2,g3,g4⟩:=cells_list hcell (v.4.1 * i.size) v.3 (Nat.le_of_ble_eq_true hb)
   exact ⟨us,g4,hu ▸ App.ofSrc ht hi hz (Src.ofSlice w h2 _ v.4.1 cap us g1 (fun j y hy => by rw [addr_add];exact g2 j y hy) g3)⟩
 ·rw [e1]
  refine ⟨_,_,rfl,(Nat.zero_mul _).symm,fun ρ lk n w u hE hv => ?_⟩
  have hu:=VR_6 hv h1
  rw [h3] at hu
  exact ⟨[],trivial,hu ▸ App.ofSrc ht hi hz (Src.ofNil w h2 0)⟩
theorem nwBytes_ok {t t2 e:TypeId} {i:TypeInfo} {z:Value} (ht:P.underlying t = some (.slice e)) (hi:P.info? e = some i) (hz:i.zero = some z) (h2:P.underlying t2 = some .string) (hs:i.size = 1):NwOK P g t t2 e i z nwBytes:=by
 intro v h k hk
 have hk:(isT (nat_lit 5) v (fS (byteL v.2 v.3 v.2) fun l => k v.2 l)).ok:=hk
 change ∃ m news,isT (nat_lit 5) v (fS (byteL v.2 v.3 v.2) fun l => k v.2 l) = k m news ∧ _
 obtain ⟨h1,e1⟩:=isT_ok hk
 rw [e1,fS_eq]
 have blen:∀ n s m,(byteL n s m).length = m:=fun n s m => by
  induction m with
  | zero => rfl
  | succ m ih => exact congrArg Nat.succ ih
 refine ⟨_,_,rfl,by rw [blen,hs,Nat.mul_one],fun ρ lk n w u hE hv => ?_⟩
 obtain ⟨b,hb,b1,b2⟩:=VR_5 hv h1
 obtain ⟨_,q2⟩:=byteL_rel (ρ:=ρ) b b.size (Nat.le_refl _)
 rw [Nat.sub_self,List.drop_zero] at q2
 refine ⟨byteCells b,?_,?_⟩
 ·rw [← b1,← b2]
  exact q2
 ·rw [hb,← b1]
  exact App.ofSrc ht hi hz (by rw [hs];exact Src.ofString w h2 b)
end EV
end
noncomputable section
namespace EV
open Go
variable {P:Program} {g:Nat}
theorem app_zeros {t t2 e:TypeId} {i:TypeInfo} {z:Value} {k k':IntKind} {m:Nat} (ht:P.underlying t = some (.slice e)) (hi:P.info? e = some i) (hz:i.zero = some z) (h2:P.underlying t2 = some (.int k')) (hzs:z.cells.size = i.size)
  (h1:∀ u ∈ z.cells.toList,u.oneCell' = true) (hm:m ≤ 32768) (hb:i.bytes ≤ 1073741824) (w:World):App P t t2 e i z (.int k (m:Int)) m (Builtin.zeroCells z.cells m).toList w:=by
 have hwrap:IntKind.i64.wrap (m:Int) = (m:Int):=by rw [IntKind.wrap_i64];omega
 have n1:¬ ((m:Int) < 0):=by omega
 have hmul:m * i.bytes ≤ 32768 * 1073741824:=Nat.mul_le_mul hm hb
 have n2:¬ (281474976710656 < (m:Int) * (i.bytes:Int)):=by
  have:((m * i.bytes:Nat):Int) ≤ 35184372088832:=by omega
  rw [Int.natCast_mul] at this
  omega
 have hlen:(Builtin.zeroCells z.cells m).toList.length = m * i.size:=by simp [Builtin.zeroCells,hzs]
 have hone:∀ u ∈ (Builtin.zeroCells z.cells m).toList,u.oneCell' = true:=by
  have:=made_flat z.cells m
  have e:Builtin.zeroCells z.cells m = madeCells z.cells (m * z.cells.size):=rfl
  rw [e,this]
  exact one_rep h1 m
 have hempty:m * i.size = 0 → Builtin.zeroCells z.cells m = #[]:=fun h0 => by
  apply Array.eq_empty_of_size_eq_zero
  rw [← Array.length_toList,hlen,h0]
 refine ⟨hlen,hone,fun h0 ty base sLen sCap hle => ?_,fun ty b off sLen sCap hroom hc hf => ?_,fun ty base sLen sCap olds hold hg h63 hfit => ?_⟩
 ·subst h0
  have hw0:IntKind.i64.wrap 0 = 0:=hwrap
  cases base <;> simp [Builtin.append_,run_underlying ht,run_underlying h2,Go.sizeOf,typeInfo,hi,asInt,asIntOf,hw0,hle,storeCells]
 ·have hst:=run_storeCells_cells (P:=P) b (off + sLen * i.size) (Builtin.zeroCells z.cells m).toList 0 w (by simpa using hc) (by simpa using hf) hone
  simp only [Nat.add_zero] at hst
  by_cases h0:m * i.size = 0
  ·have he:=hempty h0
   rw [he] at hst ⊢
   simp [Builtin.append_,run_underlying ht,run_underlying h2,Go.sizeOf,typeInfo,hi,asInt,asIntOf,hwrap,n1,n2,hroom,h0,Addr.add_lit,storeCells,World.setCells]
  ·simp [Builtin.append_,run_underlying ht,run_underlying h2,Go.sizeOf,typeInfo,zeroValue,hi,hz,asInt,asIntOf,hwrap,n1,n2,hroom,h0,Addr.add_lit,hst]
 ·have hn:¬ (sLen + m ≤ sCap):=by omega
  have h63':¬ (9223372036854775807 < ((sLen:Int) + (m:Int))):=by omega
  have h48':¬ (281474976710656 < Builtin.nextslicecap (sLen + m) sCap * i.bytes):=by omega
  by_cases h0:m * i.size = 0
  ·have he:=hempty h0
   rw [he]
   simp [Builtin.append_,run_underlying ht,run_underlying h2,Go.sizeOf,typeInfo,zeroValue,hi,hz,asInt,asIntOf,hwrap,n1,n2,hn,h63',h48',h0,Question.forced,hold,newRow,grownCap]
  ·simp [Builtin.append_,run_underlying ht,run_underlying h2,Go.sizeOf,typeInfo,zeroValue,hi,hz,asInt,asIntOf,hwrap,n1,n2,hn,h63',h48',h0,Question.forced,hold,newRow,grownCap]
   congr 2
   apply Array.ext'
   simp [List.append_assoc]
theorem nwZeros_ok {t t2 e:TypeId} {i:TypeInfo} {z:Value} {l:List AV} {k':IntKind} (ht:P.underlying t = some (.slice e)) (hi:P.info? e = some i) (hz:i.zero = some z) (h2:P.underlying t2 = some (.int k')) (hl:l.length = i.size)
  (hc:constCells z.cells.toList = some l) (hb:i.bytes ≤ 1073741824):NwOK P g t t2 e i z (nwZeros l):=by
 intro v h k hk
 have hk:(natK v fun m => bA (Nat.ble m (nat_lit 32768)) (k m (repL l m)) (.fail 56)).ok:=hk
 change ∃ m news,(natK v fun m => bA (Nat.ble m (nat_lit 32768)) (k m (repL l m)) (.fail 56)) = k m news ∧ _
 obtain ⟨h1,e1⟩:=natK_ok hk
 rw [e1] at hk ⊢
 obtain ⟨h3,e1⟩:=bA_ok hk
 rw [e1]
 refine ⟨_,_,rfl,by rw [repL_eq];simp [hl],fun ρ lk n w u hE hv => ?_⟩
 obtain ⟨kk,hu,_⟩:=natV hv h1
 obtain ⟨q1,q2,_⟩:=constCells_rel (ρ:=ρ) hc
 obtain ⟨m1,m2,m3⟩:=made_rel q1 q2 hl v.2
 have hzs:z.cells.size = i.size:=by rw [← hl,VRs_len q1];simp
 have e:Builtin.zeroCells z.cells v.2 = madeCells z.cells (v.2 * i.size):=by rw [← hzs];rfl
 refine ⟨(Builtin.zeroCells z.cells v.2).toList,by rw [e];exact m1,?_⟩
 rw [hu]
 exact app_zeros ht hi hz h2 hzs q2 (Nat.le_of_ble_eq_true h3) hb w
theorem nwD_ok {t t2 e:TypeId} {i:TypeInfo} {z:Value} {l:List AV} {d2:TypeDesc} (ht:P.underlying t = some (.slice e)) (hi:P.info? e = some i) (hz:i.zero = some z) (h2:P.underlying t2 = some d2) (hl:zeroOf P e = some l)
  (hll:l.length = i.size) (hb:i.bytes ≤ 1073741824):NwOK P g t t2 e i z (nwD P e i.size d2):=by
 obtain ⟨i',z',hi',hz',hc⟩:=zeroOf_spec hl
 rw [hi] at hi'
 cases hi'
 rw [hz] at hz'
 cases hz'
 cases d2 with
 | slice e2 => exact nwCells_ok ht hi hz h2
 | string =>
  change NwOK P g t t2 e i z (bK (Nat.beq i.size (nat_lit 1)) nwBytes badW)
  by_cases hs:i.size = 1
  ·rw [nbT hs];exact nwBytes_ok ht hi hz h2 hs
  ·rw [nbF hs];exact badW_ok
 | int k =>
  change NwOK P g t t2 e i z (oW (zeroOf P e) fun z => bK (Nat.beq (len z) i.size) (nwZeros z) badW)
  rw [hl]
  change NwOK P g t t2 e i z (bK (Nat.beq (len l) i.size) (nwZeros l) badW)
  rw [len_eq,nbT hll]
  exact nwZeros_ok ht hi hz h2 hll hc hb
 | _ => exact badW_ok
end EV
end
noncomputable section
namespace EV
open Go
variable {P:Program} {g:Nat}
theorem nextcap_le {need old:Nat} (h:old < need) (hn:need ≤ 32768):Builtin.nextslicecap need old ≤ 262144:=by
 unfold Builtin.nextslicecap
 split
 ·omega
 ·split
  ·omega
  ·simp only [Builtin.growBy]
   repeat' split
   all_goals omega
theorem grown_ge (w:World) (need old:Nat) (e:TypeId):need ≤ grownCap w need old e:=by unfold grownCap;exact Nat.le_add_right _ _
theorem zeroCells_size (z:Array Value) (n:Nat):(Builtin.zeroCells z n).size = n * z.size:=by simp [Builtin.zeroCells]
end EV
end
noncomputable section
namespace EV
open Go
variable {P:Program} {g:Nat}
theorem growK_ok {q:Nat} {e:TypeId} {r:AO} {o l s need k:Nat} {news:List AV} {h:Heap} {n:Nat} {K:Vk} (hnl:news.length = k * s) (hneed:need = l + k) (hk:(growK q e r o l s need news h n K).ok) :
  ∃ c,growK q e r o l s need news h n K = K (mSl n 0 need need s) (hset h n ⟨1,e,need * s,c,[],q⟩) (n + 1) ∧ need * s ≤ maxCells ∧ n < maxBlocks ∧ o + l * s ≤ r.3 ∧
   (∀ i,i < need * s → c.get i = if i < l * s then r.4.get (o + i) else news.getD (i - l * s) undefA):=by
 have hM:maxCells = 32768:=rfl
 have hmul:need * s = l * s + k * s:=by rw [hneed,Nat.add_mul]
 have hk:(bA (Nat.ble (Nat.mul need s) (nat_lit 32768)) (bA (bK (Nat.beq o (nat_lit 0)) (Nat.beq r.3 (Nat.mul l s)) false)
  (setN news r.3 r.4 fun c => fT (Nat.mul need s) fun bl => newK ⟨(nat_lit 1),e,bl,c,[],q⟩ h n fun h m => K (mSl n (nat_lit 0) need need s) h m)
  (bA (Nat.ble (Nat.add o (Nat.mul l s)) r.3) (getN (Nat.mul l s) o r.4 fun old => rowQ q e (appL old news) h n fun h m => K (mSl n (nat_lit 0) need need s) h m) (.fail 57))) (.fail 58)).ok:=hk
 change ∃ c,(bA (Nat.ble (Nat.mul need s) (nat_lit 32768)) (bA (bK (Nat.beq o (nat_lit 0)) (Nat.beq r.3 (Nat.mul l s)) false)
  (setN news r.3 r.4 fun c => fT (Nat.mul need s) fun bl => newK ⟨(nat_lit 1),e,bl,c,[],q⟩ h n fun h m => K (mSl n (nat_lit 0) need need s) h m)
  (bA (Nat.ble (Nat.add o (Nat.mul l s)) r.3) (getN (Nat.mul l s) o r.4 fun old => rowQ q e (appL old news) h n fun h m => K (mSl n (nat_lit 0) need need s) h m) (.fail 57))) (.fail 58)) = _ ∧ _
 obtain ⟨h1,e1⟩:=bA_ok hk
 rw [e1] at hk ⊢
 have h1:need * s ≤ 32768:=Nat.le_of_ble_eq_true h1
 by_cases hb:o = 0 ∧ r.3 = l * s
 ·have hbt:bK (Nat.beq o (nat_lit 0)) (Nat.beq r.3 (Nat.mul l s)) false = true:=by
   rw [nbT hb.1]
   exact nbT hb.2
  rw [hbt,bA_true,setN_eq,fT_eq] at hk ⊢
  obtain ⟨h2,e2⟩:=newK_ok hk
  rw [e2]
  refine ⟨_,rfl,by omega,h2,by rw [hb.2];omega,fun i hi => ?_⟩
  rw [setL_get news r.3 r.4 i (by rw [hb.2,hnl];omega) (by omega),hb.2,hb.1,Nat.zero_add]
  by_cases hi2:i < l * s
  ·rw [if_neg (by omega),if_pos hi2]
  ·rw [if_pos (by rw [hnl];omega),if_neg hi2]
 ·have hbf:bK (Nat.beq o (nat_lit 0)) (Nat.beq r.3 (Nat.mul l s)) false = false:=by
   by_cases ho:o = 0
   ·rw [nbT ho]
    exact nbF fun c => hb ⟨ho,c⟩
   ·rw [nbF ho];rfl
  rw [hbf,bA_false] at hk ⊢
  obtain ⟨h2,e2⟩:=bA_ok hk
  rw [e2,getN_eq,appL_eq] at hk ⊢
  have hlen:(getL (Nat.mul l s) o r.4 ++ news).length = need * s:=by
   rw [List.length_append,getL_length,hnl,hmul];rfl
  unfold rowQ at hk ⊢
  obtain ⟨h3,e3⟩:=bA_ok hk
  rw [e3,setN_eq,len_eq,hlen] at hk ⊢
  obtain ⟨h4,e4⟩:=newK_ok hk
  rw [e4]
  refine ⟨_,rfl,by omega,h4,Nat.le_of_ble_eq_true h2,fun i hi => ?_⟩
  rw [setL_get _ 0 cells0 i (by rw [hlen];omega) (by omega),if_pos (by rw [hlen];omega),Nat.sub_zero]
  by_cases hi2:i < l * s
  ·rw [if_pos hi2]
   simp only [List.getD_eq_getElem?_getD]
   rw [List.getElem?_append_left (by rw [getL_length];exact hi2)]
   have hg:(getL (Nat.mul l s) o r.4)[i]? = some (r.4.get (o + i)):=by
    unfold getL
    rw [List.getElem?_map,List.getElem?_range (show i < Nat.mul l s from hi2)]
    rfl
   rw [hg]
   rfl
  ·rw [if_neg hi2]
   simp only [List.getD_eq_getElem?_getD]
   rw [List.getElem?_append_right (by rw [getL_length];exact Nat.le_of_not_lt hi2),getL_length]
   rfl
theorem OW_rowC {ρ:Rho} {w:World} {e:TypeId} {N q:Nat} {c:Cells} {cs:Array Value} (hc:∀ i,i < N → ∃ u,cs[i]? = some u ∧ u.oneCell' = true ∧ VR ρ (c.get i) u) (hle:N ≤ cs.size) (hl:N ≤ maxCells) :
  OW ρ ⟨1,e,N,c,[],q⟩ ⟨w.heap.size,0,cs.size⟩ (w.alloc (.cells cs e)):=by
 refine ⟨fun _ => ⟨fun _ => rfl,?_,hle,hl,fun i hi => ?_,fun _ off hf' => ?_⟩,fun ht => absurd ht (by change ¬ (1:Nat) = 3;decide),fun ht => absurd ht (by change ¬ (1:Nat) = 4;decide)⟩
 ·have:=heap_alloc_new w (.cells cs e)
  change (w.alloc (.cells cs e)).shape? w.heap.size = some (e,0 + cs.size)
  simp only [World.shape?,this,Nat.zero_add]
 ·obtain ⟨u,h1,h2,h3⟩:=hc i hi
  refine ⟨u,?_,h2,h3⟩
  change (w.alloc (.cells cs e)).cell? ⟨w.heap.size,0 + i,none⟩ = _
  rw [Nat.zero_add,World.cell?_alloc_mark w cs e (0,0) i,h1]
 ·simp at hf'
theorem grown_stepC {lk:Nat} {ρ:Rho} {h:Heap} {n:Nat} {w:World} (hE:Emb g lk ρ h n w) (hn:n < maxBlocks) {e:TypeId} {c:Cells} {cs:List Value} {z:Array Value} {need cap s q:Nat} (hv:∀ i u,cs[i]? = some u → VR ρ (c.get i) u)
  (h1:∀ c ∈ cs,c.oneCell' = true) (hzs:z.size = s) (hl:need * s ≤ maxCells) (hlen:cs.length = need * s) (hcap:need ≤ cap) :
  Emb g lk (ρ.up n ⟨w.heap.size,0,cap * s⟩) (hset h n ⟨1,e,need * s,c,[],q⟩) (n + 1) (w.drew.alloc (.cells (cs.toArray ++ Builtin.zeroCells z (cap - need)) e)) ∧
   Stp lk ρ h n w (ρ.up n ⟨w.heap.size,0,cap * s⟩) (hset h n ⟨1,e,need * s,c,[],q⟩) (n + 1) (w.drew.alloc (.cells (cs.toArray ++ Builtin.zeroCells z (cap - need)) e)):=by
 have hsz:(cs.toArray ++ Builtin.zeroCells z (cap - need)).size = cap * s:=by
  rw [Array.size_append,zeroCells_size,hzs]
  simp only [List.size_toArray]
  rw [hlen,← Nat.add_mul]
  congr 1
  omega
 have hle:ρ.le (ρ.up n ⟨w.heap.size,0,cap * s⟩):=Rho.le_up hE _
 have hO:=OW_rowC (ρ:=ρ.up n ⟨w.heap.size,0,cap * s⟩) (w:=w.drew) (e:=e) (N:=need * s) (q:=q) (c:=c) (cs:=cs.toArray ++ Builtin.zeroCells z (cap - need)) (fun i hi => by
  have hi':i < cs.length:=by omega
  refine ⟨cs[i],?_,h1 _ (by simp),(hv i _ (by simp [hi'])).mono hle⟩
  rw [Array.getElem?_append_left (by simpa using hi')]
  simp [hi']) (by rw [hsz];exact Nat.mul_le_mul_right _ hcap) hl
 rw [hsz] at hO
 exact ⟨hE.drew.alloc hn hO,Stp.trans Stp.drew (Stp.alloc hE.drew hn)⟩
end EV
end
noncomputable section
namespace EV
open Go
variable {P:Program} {g:Nat}
theorem moved_step {lk:Nat} {ρ:Rho} {h:Heap} {n:Nat} {w w':World} (hE:Emb g lk ρ h n w) {b:Nat} {pl:Pl} (hb:ρ b = some pl) (hlk:lk ≤ b) (hlive:(hget h b).1 ≠ 0) (hns:(hget h b).1 ≠ 5) (hn:n < maxBlocks) {ao:AO} {q:Pl} (hq:q.B = pl.B)
  (hos:w'.os = w.os) (ht:w'.tape = w.tape) (ho:w'.output = w.output) (hs:w'.heap.size = w.heap.size) (hw:∀ k,k ≠ pl.B → w'.heap[k]? = w.heap[k]?) (hO:OW (ρ.up n q) ao q w') :
  ρ.le (ρ.up n q) ∧ Emb g lk (ρ.up n q) (hset (hset h b dead) n ao) (n + 1) w' ∧ Stp lk ρ h n w (ρ.up n q) (hset (hset h b dead) n ao) (n + 1) w':=by
 have hd:dead.1 = 0:=rfl
 have hbn:=(hE.bd b pl hb).1
 have E1:Emb g lk ρ (hset h b dead) n w':=hE.write hb hlk hlive hns (by exact fun c => by cases c) (fun c => absurd hd c) hs hw
 have S1:Stp lk ρ h n w ρ (hset h b dead) n w':=Stp.write hE hb hlk hlive hos ht ho hs hw
 have hl:=Rho.le_up hE q
 have hg:∀ c,c < n + 1 → hget (hset (hset h b dead) n ao) c = if c = n then ao else hget (hset h b dead) c:=fun c hc => hget_hset _ n c ao hn (by omega)
 have hg0:∀ c,c < n → hget (hset h b dead) c = if c = b then dead else hget h c:=fun c hc => hget_hset h b c dead (by omega) (by omega)
 -- no other live block lies there
 have alone:∀ c q',c < n → (hget (hset h b dead) c).1 ≠ 0 → ρ c = some q' → q'.B ≠ pl.B:=fun c q' hc hcl hcρ => by
  rw [hg0 c hc] at hcl
  by_cases e:c = b
  ·rw [if_pos e] at hcl
   exact absurd hd hcl
  ·rw [if_neg e] at hcl
   exact Ne.symm (hE.inj b c pl q' hlk hbn hc (Ne.symm e) hlive hcl hb hcρ fun e5 => absurd e5 hns)
 refine ⟨hl,⟨by omega,E1.gk,by have:=E1.kn;omega,fun c r hc => ?_,fun c hc hct => ?_,fun c c' r r' h1 h2 h3 h4 h5 h6 h7 h8 h9 => ?_,fun c hc => ?_,fun c hc hm => by
  rw [hget_hset _ n c ao hn hm,if_neg (by omega)]
  exact E1.up c (by omega) hm,fun c c' r r' h1 h2 h3 h4 h5 h6 h7 h8 => ?_⟩,?_⟩
 ·by_cases e:c = n
  ·subst e
   simp only [Rho.up_same,Option.some.injEq] at hc
   subst hc
   have:=(hE.bd b pl hb).2
   exact ⟨by omega,by rw [hq];omega⟩
  ·simp only [Rho.up,e,if_false] at hc
   have:=E1.bd c r hc
   exact ⟨by omega,this.2⟩
 ·rw [hg c hc] at hct ⊢
  by_cases e:c = n
  ·subst e
   exact ⟨_,Rho.up_same _ _ _,by simpa using hO⟩
  ·simp only [e,if_false] at hct ⊢
   obtain ⟨r,p1,p2⟩:=E1.ob c (by omega) hct
   exact ⟨r,hl _ _ p1,p2.keep hl rfl⟩
 ·rw [hg c h2] at h5 h9
  rw [hg c' h3] at h6 h9
  by_cases e:c = n
  ·subst e
   have e':c' ≠ c:=Ne.symm h4
   simp only [Rho.up_same,Option.some.injEq] at h7
   simp only [Rho.up,e',if_false] at h8
   simp only [e',if_false] at h6
   subst h7
   rw [hq]
   exact Ne.symm (alone c' r' (by omega) h6 h8)
  ·simp only [e,if_false] at h5 h9
   simp only [Rho.up,e,if_false] at h7
   by_cases e':c' = n
   ·subst e'
    simp only [Rho.up_same,Option.some.injEq] at h8
    subst h8
    rw [hq]
    exact alone c r (by omega) h5 h7
   ·simp only [e',if_false] at h6 h9
    simp only [Rho.up,e',if_false] at h8
    exact E1.inj c c' r r' h1 (by omega) (by omega) h4 h5 h6 h7 h8 h9
 ·obtain ⟨R',hR⟩:=hE.gl c hc
  exact ⟨R',hl _ _ hR⟩
 ·have e:c ≠ n:=by omega
  simp only [Rho.up,e,if_false] at h6
  rw [hg c (by omega),if_neg e] at h4 ⊢
  rw [hg c' h3] at h5 ⊢
  by_cases e':c' = n
  ·subst e'
   simp only [Rho.up_same,Option.some.injEq] at h7
   subst h7
   exact absurd (h8.trans hq) (alone c r (by omega) (by rw [h4];decide) h6)
  ·simp only [Rho.up,e',if_false] at h7
   rw [if_neg e'] at h5 ⊢
   exact E1.shr c c' r r' h1 h2 (by omega) h4 h5 h6 h7 h8
 ·refine ⟨hl,by omega,hos,ht,ho,by omega,fun B _ hno => hw B fun e => hno b pl hlk hbn hlive hb e.symm,fun c r h1 h2 h3 h4 _ => ?_,fun c hc => ?_,fun c hc hdc => by
   rw [hg c (by omega),if_neg (by omega),hg0 c hc]
   split
   ·exact hd
   ·exact hdc,fun c hc hdc => by
   have hne:c ≠ n:=by omega
   simp [Rho.up,hne,hdc]⟩
  ·rw [hg c h2] at h3
   by_cases e:c = n
   ·subst e
    simp only [Rho.up_same,Option.some.injEq] at h4
    subst h4
    exact ⟨b,pl,hlk,hbn,hlive,hb,hq.symm⟩
   ·simp only [e,if_false] at h3
    simp only [Rho.up,e,if_false] at h4
    rw [hg0 c (by omega)] at h3
    by_cases e2:c = b
    ·rw [if_pos e2] at h3
     exact absurd hd h3
    ·rw [if_neg e2] at h3
     exact ⟨c,r,h1,by omega,h3,h4,rfl⟩
  ·have:=hE.kn
   rw [hg c (by omega),hg0 c (by omega)]
   have e1:c ≠ n:=by omega
   have e2:c ≠ b:=by omega
   simp [e1,e2]
theorem OW_move {ρ:Rho} {w:World} {r:AO} {pl:Pl} (h:OW ρ r pl w) (ht:r.1 = 1 ∨ r.1 = 5) {tg:Nat} (htg:tg = 1 ∨ tg = 5) {o l s need k cap q:Nat} {news:List AV} {us:List Value} {c:Cells} (hv:VRs ρ news us) (h1:∀ c ∈ us,c.oneCell' = true)
  (hnl:news.length = k * s) (hneed:need = l + k) (hol:o + l * s ≤ r.3) (hcap:o + cap * s ≤ pl.R) (hfit:need ≤ cap) (hmax:need * s ≤ maxCells) (hq:q = 0 → o = 0 ∧ r.6 = 0)
  (hc:∀ i,i < need * s → c.get i = if i < l * s then r.4.get (o + i) else news.getD (i - l * s) undefA)
  (hex:∀ j,j < us.length → (w.cell? ⟨pl.B,pl.o + o + l * s + j,none⟩).isSome = true) :
  OW ρ ⟨tg,r.2,need * s,c,[],q⟩ ⟨pl.B,pl.o + o,pl.R - o⟩ (w.setCells pl.B (pl.o + o + l * s) us):=by
 have hr:isRow r = true:=by
  rcases ht with e | e
  ·unfold isRow;rw [nbT e];rfl
  ·unfold isRow;rw [e];rfl
 obtain ⟨z,a,b,c0,d,e⟩:=h.1 hr
 have hlen:=VRs_len hv
 have hmul:need * s = l * s + k * s:=by rw [hneed,Nat.add_mul]
 have hcm:need * s ≤ cap * s:=Nat.mul_le_mul_right _ hfit
 refine ⟨fun _ => ⟨fun hq0 => ?_,?_,?_,hmax,fun i hi => ?_,fun _ off hf => ?_⟩,fun ht => absurd ht (by change ¬ tg = 3;omega),fun ht => absurd ht (by change ¬ tg = 4;omega)⟩
 ·obtain ⟨x1,x2⟩:=hq hq0
  change pl.o + o = 0
  rw [x1,z x2]
 ·have hR:pl.o + o + (pl.R - o) = pl.o + pl.R:=by omega
  change (w.setCells pl.B (pl.o + o + l * s) us).shape? pl.B = some (r.2,pl.o + o + (pl.R - o))
  rw [hR,shape?_setCells]
  exact a
 ·change need * s ≤ pl.R - o
  omega
 ·change i < need * s at hi
  change ∃ u,(w.setCells pl.B (pl.o + o + l * s) us).cell? ⟨pl.B,pl.o + o + i,none⟩ = some u ∧ u.oneCell' = true ∧ VR ρ (c.get i) u
  rw [hc i hi]
  by_cases hi2:i < l * s
  ·rw [if_pos hi2]
   obtain ⟨u,u1,u2⟩:=d (o + i) (by omega)
   refine ⟨u,?_,u2⟩
   rw [World.cell?_setCells_out pl.B us (pl.o + o + l * s) w _ (fun _ _ => by simp only;omega),Nat.add_assoc]
   exact u1
  ·rw [if_neg hi2]
   have hj:i - l * s < us.length:=by omega
   refine ⟨us[i - l * s],?_,h1 _ (by simp),VRs_get hv _ _ (by simp [hj])⟩
   have:=World.cell?_setCells_in pl.B us (pl.o + o + l * s) w hex (i - l * s) hj
   rwa [show pl.o + o + l * s + (i - l * s) = pl.o + o + i by omega] at this
 ·rw [World.frozen?_setCells] at hf
  have:=e ht off hf
  change pl.o + o + (pl.R - o) ≤ off
  omega
end EV
end
noncomputable section
namespace EV
open Go
variable {P:Program} {g:Nat}
theorem cell_some {w:World} {B N i:Nat} {e:TypeId} (h:w.shape? B = some (e,N)) (hi:i < N):(w.cell? ⟨B,i,none⟩).isSome = true:=by
 unfold World.shape? at h
 unfold World.cell?
 cases hb:w.heap[B]? with
 | none => rw [hb] at h;cases h
 | some o =>
  rw [hb] at h
  cases o with
  | cells c el f =>
   simp only [Option.some.injEq,Prod.mk.injEq] at h
   have:i < c.size:=by omega
   simp [this]
  | _ => cases h
structure ApIn (P:Program) (t t2 e:TypeId) (i:TypeInfo) (z:Value):Prop where
 ht:P.underlying t = some (.slice e)
 hi:P.info? e = some i
 hz:i.zero = some z
 hzs:z.cells.size = i.size
 h0:i.size ≠ 0
 hb:i.bytes ≤ 1073741824
theorem fit_ok {need old bytes:Nat} (h:old < need) (hn:need ≤ 32768) (hb:bytes ≤ 1073741824):Builtin.nextslicecap need old * bytes ≤ 281474976710656:=by
 have h1:=nextcap_le h hn
 calc Builtin.nextslicecap need old * bytes ≤ 262144 * 1073741824:=Nat.mul_le_mul h1 hb
  _ = 281474976710656:=rfl
theorem ap_new {t t2 e:TypeId} {i:TypeInfo} {z:Value} (hA:ApIn P t t2 e i z) {lk:Nat} {ρ:Rho} {h:Heap} {n:Nat} {w:World} (hE:Emb g lk ρ h n w) (hn:n < maxBlocks) {news:List AV} {us:List Value} {k:Nat} {x:Value} (hv:VRs ρ news us) (ha:App P t t2 e i z x k us w)
  (hl:news.length ≤ maxCells) (ty:TypeId) (base:Option Addr) (cap:Nat) (hcap:cap < k) (hold:(Builtin.firstCells i.size 0 (.slice base 0 cap)).run P w.drew = .ok (#[]:Array Value) w.drew) :
  ∃ u ρ' w',(Builtin.append_ #[t,t2] ty #[.slice base 0 cap,x]).run P w = .ok u w' ∧ VR ρ' (mSl n 0 k k i.size) u ∧ Emb g lk ρ' (hset h n ⟨1,e,news.length,setL news 0 cells0,[],0⟩) (n + 1) w' ∧
   Stp lk ρ h n w ρ' (hset h n ⟨1,e,news.length,setL news 0 cells0,[],0⟩) (n + 1) w':=by
 have hM:maxCells = 32768:=rfl
 have hlen:=VRs_len hv
 have hk:news.length = k * i.size:=by rw [hlen,ha.newsLen]
 have hpos:0 < i.size:=Nat.pos_of_ne_zero hA.h0
 have hkle:k ≤ 32768:=by
  have:k * 1 ≤ k * i.size:=Nat.mul_le_mul_left _ hpos
  omega
 have hrun:=ha.grow ty base 0 cap [] hold (by omega) (by omega) (by rw [Nat.zero_add];exact fit_ok hcap hkle hA.hb)
 rw [Nat.zero_add,List.nil_append] at hrun
 obtain ⟨s1,s2⟩:=grown_stepC hE hn (e:=e) (q:=0) (c:=setL news 0 cells0) (cs:=us) (z:=z.cells) (need:=k) (cap:=grownCap w k cap e) (s:=i.size) (fun j u hu => by
  have hj:j < us.length:=(List.getElem?_eq_some_iff.1 hu).1
  rw [setL_get news 0 cells0 j (by omega) (by omega),if_pos (by omega)]
  exact VRs_get hv (j - 0) u hu) ha.one hA.hzs (by omega) ha.newsLen (grown_ge w k cap e)
 rw [← hk] at s1 s2
 refine ⟨_,_,_,hrun,⟨_,_,grownCap w k cap e,Rho.up_same _ _ _,rfl,fun c => absurd c hA.h0,fun _ => ⟨grown_ge w k cap e,?_⟩,.inl rfl,grown_ge w k cap e⟩,s1,s2⟩
 change 0 + grownCap w k cap e * i.size ≤ grownCap w k cap e * i.size
 omega
theorem ap_grow {t t2 e:TypeId} {i:TypeInfo} {z:Value} (hA:ApIn P t t2 e i z) {lk:Nat} {ρ:Rho} {h:Heap} {n:Nat} {w:World} (hE:Emb g lk ρ h n w) (hn:n < maxBlocks) {news:List AV} {us:List Value} {k:Nat} {x:Value} (hv:VRs ρ news us) (ha:App P t t2 e i z x k us w)
  {b o l need cap q:Nat} {pl:Pl} {c:Cells} {hd:Heap} (hE1:Emb g lk ρ hd n w) (hS1:Stp lk ρ h n w ρ hd n w) (hb:ρ b = some pl) (hr:isRow (hget h b) = true) (hol:o + l * i.size ≤ (hget h b).3) (hneed:need = l + k) (hcap:cap < need) (hl:need * i.size ≤ maxCells)
  (hc:∀ j,j < need * i.size → c.get j = if j < l * i.size then (hget h b).4.get (o + j) else news.getD (j - l * i.size) undefA) (ty:TypeId) (A:Addr) (hAd:l ≠ 0 → A = ⟨pl.B,pl.o + o,none⟩) :
  ∃ u ρ' w',(Builtin.append_ #[t,t2] ty #[.slice (some A) l cap,x]).run P w = .ok u w' ∧ VR ρ' (mSl n 0 need need i.size) u ∧ Emb g lk ρ' (hset hd n ⟨1,e,need * i.size,c,[],q⟩) (n + 1) w' ∧
   Stp lk ρ h n w ρ' (hset hd n ⟨1,e,need * i.size,c,[],q⟩) (n + 1) w':=by
 have hM:maxCells = 32768:=rfl
 have hlen:=VRs_len hv
 have hk:news.length = k * i.size:=by rw [hlen,ha.newsLen]
 have hpos:0 < i.size:=Nat.pos_of_ne_zero hA.h0
 have hkle:need ≤ 32768:=by
  have:need * 1 ≤ need * i.size:=Nat.mul_le_mul_left _ hpos
  omega
 have hmul:need * i.size = l * i.size + k * i.size:=by rw [hneed,Nat.add_mul]
 obtain ⟨_,_,_,hcell,_⟩:=row_of hE hb hr
 obtain ⟨olds,g1,g2,g3,g4⟩:=cells_list hcell (l * i.size) o hol
 have hold:(Builtin.firstCells i.size l (.slice (some A) l cap)).run P w.drew = .ok olds.toArray w.drew:=by
  refine run_firstCells_some w.drew i.size l A l cap olds g1 fun j v hj => ?_
  have hl0:l ≠ 0:=fun c => by
   subst c
   rw [Nat.zero_mul] at g1
   have:olds = []:=List.length_eq_zero_iff.1 g1
   subst this
   simp at hj
  rw [hAd hl0,addr_add]
  exact g2 j v hj
 subst hneed
 have hrun:=ha.grow ty (some A) l cap olds hold hcap (by omega) (fit_ok hcap hkle hA.hb)
 have hcl:(olds ++ us).length = (l + k) * i.size:=by rw [List.length_append,g1,ha.newsLen,hmul]
 obtain ⟨s1,s2⟩:=grown_stepC hE1 hn (e:=e) (q:=q) (c:=c) (cs:=olds ++ us) (z:=z.cells) (need:=l + k) (cap:=grownCap w (l + k) cap e) (s:=i.size) (fun j u hu => by
  have hj:j < (olds ++ us).length:=(List.getElem?_eq_some_iff.1 hu).1
  rw [hc j (by omega)]
  by_cases h2:j < l * i.size
  ·rw [if_pos h2]
   rw [List.getElem?_append_left (by omega)] at hu
   have:=VRs_get g4 j u hu
   have e:(getL (l * i.size) o (hget h b).4).getD j undefA = (hget h b).4.get (o + j):=by
    unfold getL
    simp [h2]
   rwa [e] at this
  ·rw [if_neg h2]
   rw [List.getElem?_append_right (by omega),g1] at hu
   exact VRs_get hv _ u hu) (fun c hc => by
  rcases List.mem_append.1 hc with c1 | c1
  ·exact g3 c c1
  ·exact ha.one c c1) hA.hzs hl hcl (grown_ge w (l + k) cap e)
 refine ⟨_,_,_,hrun,⟨_,_,grownCap w (l + k) cap e,Rho.up_same _ _ _,rfl,fun c => absurd c hA.h0,fun _ => ⟨grown_ge w (l + k) cap e,?_⟩,.inl rfl,grown_ge w (l + k) cap e⟩,s1,Stp.trans hS1 s2⟩
 change 0 + grownCap w (l + k) cap e * i.size ≤ grownCap w (l + k) cap e * i.size
 omega
theorem ap_move {t t2 e:TypeId} {i:TypeInfo} {z:Value} (hA:ApIn P t t2 e i z) {lk:Nat} {ρ:Rho} {h:Heap} {n:Nat} {w:World} (hE:Emb g lk ρ h n w) (hn:n < maxBlocks) {news:List AV} {us:List Value} {k:Nat} {x:Value} (hv:VRs ρ news us) (ha:App P t t2 e i z x k us w)
  {b o l need cap q:Nat} {pl:Pl} {c:Cells} (hb:ρ b = some pl) (hlk:lk ≤ b) (ht1:(hget h b).1 = 1) (he:(hget h b).2 = e) (hol:o + l * i.size ≤ (hget h b).3) (hneed:need = l + k) (hcap:need ≤ cap) (hR:o + cap * i.size ≤ pl.R) (hl:need * i.size ≤ maxCells)
  (hq:q = 0 → o = 0 ∧ (hget h b).6 = 0)
  (hc:∀ j,j < need * i.size → c.get j = if j < l * i.size then (hget h b).4.get (o + j) else news.getD (j - l * i.size) undefA) (ty:TypeId) :
  ∃ u ρ' w',(Builtin.append_ #[t,t2] ty #[.slice (some ⟨pl.B,pl.o + o,none⟩) l cap,x]).run P w = .ok u w' ∧ VR ρ' (mSl n 0 need need i.size) u ∧ Emb g lk ρ' (hset (hset h b dead) n ⟨1,e,need * i.size,c,[],q⟩) (n + 1) w' ∧
   Stp lk ρ h n w ρ' (hset (hset h b dead) n ⟨1,e,need * i.size,c,[],q⟩) (n + 1) w':=by
 have hr:isRow (hget h b) = true:=by unfold isRow;rw [nbT ht1];rfl
 have hlive:(hget h b).1 ≠ 0:=by rw [ht1];decide
 have hlen:=VRs_len hv
 have hmul:need * i.size = l * i.size + k * i.size:=by rw [hneed,Nat.add_mul]
 have hcm:need * i.size ≤ cap * i.size:=Nat.mul_le_mul_right _ hcap
 obtain ⟨sh,le1,le2,_,fz⟩:=row_of hE hb hr
 obtain ⟨q0,q1,q2⟩:=hE.ob b (hE.bd b pl hb).1 hlive
 rw [hb] at q1
 cases q1
 have hex:∀ j,j < us.length → (w.cell? ⟨pl.B,pl.o + o + l * i.size + j,none⟩).isSome = true:=fun j hj => cell_some sh (by rw [ha.newsLen] at hj;omega)
 have hrun:=ha.room ty pl.B (pl.o + o) l cap (by omega) hex (fun j hj => by
  cases hf:w.frozen? ⟨pl.B,pl.o + o + l * i.size + j,none⟩ with
  | false => rfl
  | true => have:=fz (.inl ht1) _ hf;rw [ha.newsLen] at hj;omega)
 obtain ⟨r1,r2,r3,r4,r5⟩:=setCells_rest pl.B us (pl.o + o + l * i.size) w
 have hle:ρ.le (ρ.up n ⟨pl.B,pl.o + o,pl.R - o⟩):=Rho.le_up hE _
 have hO:=OW_move (q2.keep hle rfl) (.inl ht1) (tg:=1) (.inl rfl) (s:=i.size) (k:=k) (VRs.mono hle _ _ hv) ha.one (by rw [hlen,ha.newsLen]) hneed hol hR hcap hl hq hc hex
 rw [he] at hO
 obtain ⟨_,s1,s2⟩:=moved_step hE hb hlk hlive (by omega) hn (q:=⟨pl.B,pl.o + o,pl.R - o⟩) rfl r2 r3 r4 r1 r5 hO
 subst hneed
 refine ⟨_,_,_,hrun,⟨_,_,cap,Rho.up_same _ _ _,rfl,fun c => absurd c hA.h0,fun _ => ⟨hcap,?_⟩,.inl rfl,hcap⟩,s1,s2⟩
 change 0 + cap * i.size ≤ pl.R - o
 omega
end EV
end
noncomputable section
namespace EV
open Go
variable {P:Program} {g:Nat}
theorem Emb.congr {lk:Nat} {ρ:Rho} {h h':Heap} {n:Nat} {w:World} (hE:Emb g lk ρ h n w) (e:∀ b,b < maxBlocks → hget h' b = hget h b):Emb g lk ρ h' n w:=by
 have hn:=hE.nb
 refine ⟨hE.nb,hE.gk,hE.kn,hE.bd,fun b hb ht => ?_,fun b b' pl pl' h1 h2 h3 h4 h5 h6 h7 h8 h9 => ?_,hE.gl,fun b hb hm => ?_,fun b b' pl pl' h1 h2 h3 h4 h5 h6 h7 h8 => ?_⟩
 ·rw [e b (by omega)] at ht ⊢
  exact hE.ob b hb ht
 ·rw [e b (by omega)] at h5 h9
  rw [e b' (by omega)] at h6 h9
  exact hE.inj b b' pl pl' h1 h2 h3 h4 h5 h6 h7 h8 h9
 ·rw [e b hm];exact hE.up b hb hm
 ·rw [e b (by omega)] at h4 ⊢
  rw [e b' (by omega)] at h5 ⊢
  exact hE.shr b b' pl pl' h1 h2 h3 h4 h5 h6 h7 h8
theorem Stp.congr {lk:Nat} {ρ ρ':Rho} {h h1 h2:Heap} {n n':Nat} {w w':World} (s:Stp lk ρ h n w ρ' h1 n' w') (hn:n ≤ maxBlocks) (hn':n' ≤ maxBlocks) (hk:lk ≤ n) (e:∀ b,b < maxBlocks → hget h2 b = hget h1 b):Stp lk ρ h n w ρ' h2 n' w':=
 ⟨s.ext,s.nn,s.os,s.tape,s.output,s.sz,s.unt,fun b pl g1 g2 g3 g4 g5 => s.own b pl g1 g2 (by rw [e b (by omega)] at g3;exact g3) g4 g5,fun b hb => by rw [e b (by omega)];exact s.lck b hb,
  fun b hb hd => by rw [e b (by omega)];exact s.ded b hb hd,s.nop⟩
theorem Emb.dead {lk:Nat} {ρ:Rho} {h:Heap} {n:Nat} {w:World} (hE:Emb g lk ρ h n w) {b:Nat} (hbn:b < n):Emb g lk ρ (hset h b EV.dead) n w:=by
 have hnb:=hE.nb
 have hd:EV.dead.1 = 0:=rfl
 have hg:∀ c,c < maxBlocks → hget (hset h b EV.dead) c = if c = b then EV.dead else hget h c:=fun c hc => hget_hset h b c EV.dead (by omega) hc
 have nt:∀ c,c < maxBlocks → (hget (hset h b EV.dead) c).1 ≠ 0 → c ≠ b:=fun c hc ht e => by
  rw [hg c hc,if_pos e] at ht
  exact ht hd
 refine ⟨hE.nb,hE.gk,hE.kn,hE.bd,fun c hc ht => ?_,fun c c' pl pl' h1 h2 h3 h4 h5 h6 h7 h8 h9 => ?_,hE.gl,fun c hc hm => ?_,fun c c' pl pl' h1 h2 h3 h4 h5 h6 h7 h8 => ?_⟩
 ·have e:=nt c (by omega) ht
  rw [hg c (by omega),if_neg e] at ht ⊢
  exact hE.ob c hc ht
 ·have e:=nt c (by omega) h5
  have e':=nt c' (by omega) h6
  rw [hg c (by omega),if_neg e] at h5 h9
  rw [hg c' (by omega),if_neg e'] at h6 h9
  exact hE.inj c c' pl pl' h1 h2 h3 h4 h5 h6 h7 h8 h9
 ·rw [hg c hm,if_neg (by omega)]
  exact hE.up c hc hm
 ·have e:=nt c (by omega) (by rw [h4];decide)
  have e':=nt c' (by omega) (by rw [h5];decide)
  rw [hg c (by omega),if_neg e] at h4 ⊢
  rw [hg c' (by omega),if_neg e'] at h5 ⊢
  exact hE.shr c c' pl pl' h1 h2 h3 h4 h5 h6 h7 h8
theorem Stp.dead {lk:Nat} {ρ:Rho} {h:Heap} {n:Nat} {w:World} (hE:Emb g lk ρ h n w) {b:Nat} (hbn:b < n) (hlk:lk ≤ b):Stp lk ρ h n w ρ (hset h b EV.dead) n w:=by
 have hnb:=hE.nb
 have hd:EV.dead.1 = 0:=rfl
 have hg:∀ c,c < maxBlocks → hget (hset h b EV.dead) c = if c = b then EV.dead else hget h c:=fun c hc => hget_hset h b c EV.dead (by omega) hc
 refine ⟨Rho.le_refl _,Nat.le_refl _,rfl,rfl,rfl,Nat.le_refl _,fun _ _ _ => rfl,fun c pl h1 h2 h3 h4 _ => ?_,fun c hc => ?_,fun c hc ht => ?_,fun _ _ h => h⟩
 ·have e:c ≠ b:=fun e => by
   rw [hg c (by omega),if_pos e] at h3
   exact h3 hd
  rw [hg c (by omega),if_neg e] at h3
  exact ⟨c,pl,h1,h2,h3,h4,rfl⟩
 ·rw [hg c (by omega),if_neg (by omega)]
 ·rw [hg c (by omega)]
  split
  ·exact hd
  ·exact ht
def shd (r:AO):AO:=⟨5,r.2,r.3,r.4,[],r.6⟩
theorem OW.shd {ρ:Rho} {r:AO} {pl:Pl} {w:World} (h:OW ρ r pl w) (ht:r.1 = 1 ∨ r.1 = 5):OW ρ (shd r) pl w:=by
 have hr:isRow r = true:=by
  rcases ht with e | e
  ·unfold isRow;rw [nbT e];rfl
  ·unfold isRow;rw [e];rfl
 obtain ⟨z,a,b,c,d,e⟩:=h.1 hr
 exact ⟨fun _ => ⟨z,a,b,c,d,fun _ => e ht⟩,fun c => (by cases c),fun c => (by cases c)⟩
theorem Emb.shd {lk:Nat} {ρ:Rho} {h:Heap} {n:Nat} {w:World} (hE:Emb g lk ρ h n w) {b:Nat} (hbn:b < n) (hlk:lk ≤ b) (ht:(hget h b).1 = 1 ∨ (hget h b).1 = 5):Emb g lk ρ (hset h b (shd (hget h b))) n w:=by
 have hnb:=hE.nb
 have hg:∀ c,c < maxBlocks → hget (hset h b (EV.shd (hget h b))) c = if c = b then EV.shd (hget h b) else hget h c:=fun c hc => hget_hset h b c _ (by omega) hc
 have lv:(hget h b).1 ≠ 0:=by rcases ht with e | e <;> rw [e] <;> decide
 have l2:∀ c,(if c = b then EV.shd (hget h b) else hget h c).1 ≠ 0 → (hget h c).1 ≠ 0:=fun c hc => by
  by_cases e:c = b
  ·subst e;exact lv
  ·rwa [if_neg e] at hc
 have l5:∀ c,(hget h c).1 = 5 → (if c = b then EV.shd (hget h b) else hget h c).1 = 5:=fun c hc => by
  by_cases e:c = b
  ·rw [if_pos e];rfl
  ·rwa [if_neg e]
 have l3:∀ c,(if c = b then EV.shd (hget h b) else hget h c).3 = (hget h c).3:=fun c => by
  by_cases e:c = b
  ·rw [if_pos e,e];rfl
  ·rw [if_neg e]
 refine ⟨hE.nb,hE.gk,hE.kn,hE.bd,fun c hc ht' => ?_,fun c c' pl pl' h1 h2 h3 h4 h5 h6 h7 h8 h9 => ?_,hE.gl,fun c hc hm => ?_,fun c c' pl pl' h1 h2 h3 h4 h5 h6 h7 h8 => ?_⟩
 ·rw [hg c (by omega)] at ht' ⊢
  obtain ⟨pl,p1,p2⟩:=hE.ob c hc (l2 c ht')
  refine ⟨pl,p1,?_⟩
  by_cases e:c = b
  ·subst e
   rw [if_pos rfl]
   exact p2.shd ht
  ·rw [if_neg e];exact p2
 ·rw [hg c (by omega)] at h5 h9
  rw [hg c' (by omega)] at h6 h9
  exact hE.inj c c' pl pl' h1 h2 h3 h4 (l2 c h5) (l2 c' h6) h7 h8 (fun g1 g2 => h9 (l5 c g1) (l5 c' g2))
 ·rw [hg c hm,if_neg (by omega)]
  exact hE.up c hc hm
 ·rw [hg c (by omega)] at h4 ⊢
  rw [hg c' (by omega)] at h5 ⊢
  rw [l3,l3]
  -- where one of the two was no such block,they lie apart
  by_cases x:(hget h c).1 = 5 ∧ (hget h c').1 = 5
  ·exact hE.shr c c' pl pl' h1 h2 h3 x.1 x.2 h6 h7 h8
  ·exact absurd h8 (hE.inj c c' pl pl' h1 (by omega) h3 (by omega) (l2 c (by rw [h4];decide)) (l2 c' (by rw [h5];decide)) h6 h7 fun g1 g2 => absurd ⟨g1,g2⟩ x)
theorem Stp.shd {lk:Nat} {ρ:Rho} {h:Heap} {n:Nat} {w:World} (hE:Emb g lk ρ h n w) {b:Nat} (hbn:b < n) (hlk:lk ≤ b) (ht:(hget h b).1 = 1 ∨ (hget h b).1 = 5):Stp lk ρ h n w ρ (hset h b (shd (hget h b))) n w:=by
 have hnb:=hE.nb
 have hg:∀ c,c < maxBlocks → hget (hset h b (EV.shd (hget h b))) c = if c = b then EV.shd (hget h b) else hget h c:=fun c hc => hget_hset h b c _ (by omega) hc
 have lv:(hget h b).1 ≠ 0:=by rcases ht with e | e <;> rw [e] <;> decide
 refine ⟨Rho.le_refl _,Nat.le_refl _,rfl,rfl,rfl,Nat.le_refl _,fun _ _ _ => rfl,fun c pl h1 h2 h3 h4 _ => ?_,fun c hc => ?_,fun c hc hd => ?_,fun _ _ h => h⟩
 ·rw [hg c (by omega)] at h3
  by_cases e:c = b
  ·subst e;exact ⟨c,pl,h1,h2,lv,h4,rfl⟩
  ·rw [if_neg e] at h3
   exact ⟨c,pl,h1,h2,h3,h4,rfl⟩
 ·rw [hg c (by have:=hE.kn;omega),if_neg (by omega)]
 ·have e:c ≠ b:=fun e => lv (e ▸ hd)
  rw [hg c (by omega),if_neg e]
  exact hd
def killH (b:Nat):Nat → Heap → Heap
 | 0,h => h
 | m + 1,h => killH b m (bK (Nat.beq (hget h (b + (m + 1))).1 5) (hset h (b + (m + 1)) dead) h)
theorem killK_eq (b:Nat):∀ (m:Nat) (h:Heap) (k:Heap → Ans),killK b m h k = k (killH b m h)
 | 0,_,_ => rfl
 | m + 1,h,k => by
  have e:killK b (m + 1) h k = fT (Nat.add b (Nat.succ m)) fun c => bA (Nat.beq ((heapF c).1 h).1 (nat_lit 5)) ((heapF c).2 dead h fun h => killK b m h k) (killK b m h k):=rfl
  rw [e,fT_eq,heapF_get,heapF_put,killH,killK_eq b m,killK_eq b m]
  have hadd:Nat.add b (Nat.succ m) = b + (m + 1):=rfl
  rw [hadd]
  have hb5:Nat.beq (hget h (b + (m + 1))).1 (nat_lit 5) = Nat.beq (hget h (b + (m + 1))).1 5:=rfl
  rw [hb5]
  cases hc:Nat.beq (hget h (b + (m + 1))).1 5 with
  | true => rfl
  | false => rfl
theorem kill_step {lk b n:Nat} {ρ:Rho} {w:World} (hlk:lk ≤ b):∀ (m:Nat) (h:Heap),b + m < n → Emb g lk ρ h n w →
  Emb g lk ρ (killH b m h) n w ∧ Stp lk ρ h n w ρ (killH b m h) n w
 | 0,h,_,hE => ⟨hE,Stp.refl _ _ _ _ _⟩
 | m + 1,h,hm,hE => by
  rw [killH]
  cases hc:Nat.beq (hget h (b + (m + 1))).1 5 with
  | true =>
   obtain ⟨x,y⟩:=kill_step hlk m _ (by omega) (hE.dead (b:=b + (m + 1)) hm)
   exact ⟨x,Stp.trans (Stp.dead hE hm (by omega)) y⟩
  | false => exact kill_step hlk m h (by omega) hE
theorem kill_get {b:Nat}:∀ (m:Nat) (h:Heap),b + m < maxBlocks → ∀ c,c < maxBlocks →
  (c ≤ b → hget (killH b m h) c = hget h c) ∧ (b + m < c → hget (killH b m h) c = hget h c) ∧ (b < c → c ≤ b + m → (hget (killH b m h) c).1 ≠ 5)
 | 0,h,_,c,_ => ⟨fun _ => rfl,fun _ => rfl,fun h1 h2 => by omega⟩
 | m + 1,h,hm,c,hc => by
  rw [killH]
  have hd:dead.1 = 0:=rfl
  cases h5:Nat.beq (hget h (b + (m + 1))).1 5 with
  | true =>
   obtain ⟨x,y,z⟩:=kill_get m (hset h (b + (m + 1)) dead) (Nat.lt_of_succ_lt hm) c hc
   rw [hget_hset h (b + (m + 1)) c dead hm hc] at x y
   refine ⟨fun h1 => ?_,fun h1 => ?_,fun h1 h2 => ?_⟩
   ·exact (x h1).trans (if_neg (by omega))
   ·exact (y (by omega)).trans (if_neg (by omega))
   ·by_cases e:c = b + (m + 1)
    ·have:=y (by omega)
     rw [if_pos e] at this
     change (hget (killH b m (hset h (b + (m + 1)) dead)) c).1 ≠ 5
     rw [this,hd];decide
    ·exact z h1 (by omega)
  | false =>
   obtain ⟨x,y,z⟩:=kill_get m h (Nat.lt_of_succ_lt hm) c hc
   refine ⟨x,fun h1 => y (by omega),fun h1 h2 => ?_⟩
   by_cases e:c = b + (m + 1)
   ·change (hget (killH b m h) c).1 ≠ 5
    rw [y (by omega),e]
    intro h6
    rw [h6] at h5;cases h5
   ·exact z h1 (by omega)
theorem OW.keep5 {ρ ρ':Rho} {ao:AO} {pl:Pl} {w w':World} (h:OW ρ ao pl w) (ht:ao.1 = 5) (hl:ρ.le ρ') (hsh:w'.shape? pl.B = w.shape? pl.B) (hfz:∀ off,w'.frozen? ⟨pl.B,off,none⟩ = w.frozen? ⟨pl.B,off,none⟩)
  (hce:∀ i,i < pl.o + ao.3 → w'.cell? ⟨pl.B,i,none⟩ = w.cell? ⟨pl.B,i,none⟩):OW ρ' ao pl w':=by
 have hr:isRow ao = true:=by unfold isRow;rw [ht];rfl
 obtain ⟨z,a,b,c,d,e⟩:=h.1 hr
 refine ⟨fun _ => ⟨z,hsh.trans a,b,c,fun i hi => ?_,fun ht off hf => e ht off ((hfz off).symm.trans hf)⟩,fun c => (by rw [ht] at c;cases c),fun c => (by rw [ht] at c;cases c)⟩
 obtain ⟨u,u1,u2,u3⟩:=d i hi
 exact ⟨u,(hce _ (by omega)).trans u1,u2,u3.mono hl⟩
theorem share_step {lk:Nat} {ρ:Rho} {h:Heap} {n:Nat} {w w':World} (hE:Emb g lk ρ h n w) {b:Nat} {pl:Pl} (hb:ρ b = some pl) (hlk:lk ≤ b) (h5b:(hget h b).1 = 5) (hy:∀ c,b < c → c < n → (hget h c).1 ≠ 5) (hn:n < maxBlocks)
  {ao:AO} (hao:ao.1 = 5) (hle3:(hget h b).3 ≤ ao.3) {R:Nat}
  (hos:w'.os = w.os) (ht:w'.tape = w.tape) (ho:w'.output = w.output) (hs:w'.heap.size = w.heap.size) (hw:∀ k,k ≠ pl.B → w'.heap[k]? = w.heap[k]?)
  (hsh:w'.shape? pl.B = w.shape? pl.B) (hfz:∀ off,w'.frozen? ⟨pl.B,off,none⟩ = w.frozen? ⟨pl.B,off,none⟩)
  (hce:∀ i,i < pl.o + (hget h b).3 → w'.cell? ⟨pl.B,i,none⟩ = w.cell? ⟨pl.B,i,none⟩) (hO:OW (ρ.up n ⟨pl.B,pl.o,R⟩) ao ⟨pl.B,pl.o,R⟩ w') :
  Emb g lk (ρ.up n ⟨pl.B,pl.o,R⟩) (hset h n ao) (n + 1) w' ∧ Stp lk ρ h n w (ρ.up n ⟨pl.B,pl.o,R⟩) (hset h n ao) (n + 1) w':=by
 have hbn:=(hE.bd b pl hb).1
 have hl:=Rho.le_up hE ⟨pl.B,pl.o,R⟩
 have hlive:(hget h b).1 ≠ 0:=by rw [h5b];decide
 have hg:∀ c,c < n + 1 → hget (hset h n ao) c = if c = n then ao else hget h c:=fun c hc => hget_hset h n c ao hn (by omega)
 -- who lies there
 have there:∀ c r,c < n → c ≠ b → (hget h c).1 ≠ 0 → ρ c = some r → r.B = pl.B → (hget h c).1 = 5 ∧ lk ≤ c ∧ r.o = pl.o ∧ (hget h c).3 ≤ (hget h b).3:=fun c r hc hne hcl hcr hB => by
  by_cases x:(hget h c).1 = 5 ∧ lk ≤ c
  ·have hlt:c < b:=by
    rcases Nat.lt_trichotomy c b with y | y | y
    ·exact y
    ·exact absurd y hne
    ·exact absurd x.1 (hy c y hc)
   obtain ⟨s1,s2⟩:=hE.shr c b r pl x.2 hlt hbn x.1 h5b hcr hb hB
   exact ⟨x.1,x.2,s1,s2⟩
  ·refine absurd hB.symm (hE.inj b c pl r hlk hbn hc (Ne.symm hne) hlive hcl hb hcr fun _ g2 => ?_)
   rcases Nat.lt_or_ge c lk with y | y
   ·exact y
   ·exact absurd ⟨g2,y⟩ x
 refine ⟨⟨by omega,hE.gk,by have:=hE.kn;omega,fun c r hc => ?_,fun c hc hct => ?_,fun c c' r r' h1 h2 h3 h4 h5 h6 h7 h8 h9 => ?_,fun c hc => ?_,fun c hc hm => by
  rw [hget_hset h n c ao hn hm,if_neg (by omega)]
  exact hE.up c (by omega) hm,fun c c' r r' h1 h2 h3 h4 h5 h6 h7 h8 => ?_⟩,?_⟩
 ·by_cases e:c = n
  ·subst e
   simp only [Rho.up_same,Option.some.injEq] at hc
   subst hc
   have:=(hE.bd b pl hb).2
   exact ⟨by omega,by rw [hs];exact this⟩
  ·simp only [Rho.up,e,if_false] at hc
   have:=hE.bd c r hc
   exact ⟨by omega,by rw [hs];exact this.2⟩
 ·rw [hg c hc] at hct ⊢
  by_cases e:c = n
  ·subst e
   exact ⟨_,Rho.up_same _ _ _,by simpa using hO⟩
  ·simp only [e,if_false] at hct ⊢
   obtain ⟨r,p1,p2⟩:=hE.ob c (by omega) hct
   refine ⟨r,hl _ _ p1,?_⟩
   by_cases hB:r.B = pl.B
   ·by_cases ecb:c = b
    ·subst ecb
     rw [hb] at p1
     cases p1
     exact p2.keep5 h5b hl hsh hfz hce
    ·obtain ⟨t1,t2,t3,t4⟩:=there c r (by omega) ecb hct p1 hB
     exact p2.keep5 t1 hl (by rw [hB];exact hsh) (fun off => by rw [hB];exact hfz off) (fun i hi => by rw [hB];exact hce i (by omega))
   ·exact p2.keep hl (hw _ hB)
 ·rw [hg c h2] at h5 h9
  rw [hg c' h3] at h6 h9
  by_cases e:c = n
  ·subst e
   have e':c' ≠ c:=Ne.symm h4
   simp only [Rho.up_same,Option.some.injEq] at h7
   simp only [Rho.up,e',if_false] at h8
   simp only [e',if_false] at h6 h9
   first | rw [if_pos rfl] at h9 | rw [if_pos trivial] at h9
   subst h7
   intro hB
   have hB:pl.B = r'.B:=hB
   by_cases ecb:c' = b
   ·subst ecb
    have:=h9 hao h5b
    omega
   ·obtain ⟨t1,t2,_,_⟩:=there c' r' (by omega) ecb h6 h8 hB.symm
    have:=h9 hao t1
    omega
  ·simp only [e,if_false] at h5 h9
   simp only [Rho.up,e,if_false] at h7
   by_cases e':c' = n
   ·subst e'
    simp only [Rho.up_same,Option.some.injEq] at h8
    subst h8
    first | rw [if_pos rfl] at h9 | rw [if_pos trivial] at h9
    intro hB
    have hB:r.B = pl.B:=hB
    have hkn:=hE.kn
    by_cases ecb:c = b
    ·subst ecb
     have:=h9 h5b hao
     omega
    ·obtain ⟨t1,t2,_,_⟩:=there c r (by omega) ecb h5 h7 hB
     have:=h9 t1 hao
     omega
   ·simp only [e',if_false] at h6 h9
    simp only [Rho.up,e',if_false] at h8
    exact hE.inj c c' r r' h1 (by omega) (by omega) h4 h5 h6 h7 h8 h9
 ·obtain ⟨R',hR⟩:=hE.gl c hc
  exact ⟨R',hl _ _ hR⟩
 ·have e:c ≠ n:=by omega
  simp only [Rho.up,e,if_false] at h6
  rw [hg c (by omega),if_neg e] at h4 ⊢
  rw [hg c' h3] at h5 ⊢
  by_cases e':c' = n
  ·subst e'
   simp only [Rho.up_same,Option.some.injEq] at h7
   subst h7
   rw [if_pos rfl]
   have hB:r.B = pl.B:=h8
   by_cases ecb:c = b
   ·subst ecb
    rw [hb] at h6
    cases h6
    exact ⟨rfl,hle3⟩
   ·obtain ⟨_,_,t3,t4⟩:=there c r (by omega) ecb (by rw [h4];decide) h6 hB
    exact ⟨t3,Nat.le_trans t4 hle3⟩
  ·simp only [Rho.up,e',if_false] at h7
   rw [if_neg e'] at h5 ⊢
   exact hE.shr c c' r r' h1 h2 (by omega) h4 h5 h6 h7 h8
 ·refine ⟨hl,by omega,hos,ht,ho,by omega,fun B _ hno => hw B fun e => hno b pl hlk hbn hlive hb e.symm,fun c r h1 h2 h3 h4 _ => ?_,fun c hc => ?_,fun c hc hdc => by
   rw [hg c (by omega),if_neg (by omega)]
   exact hdc,fun c hc hdc => by
   have hne:c ≠ n:=by omega
   simp [Rho.up,hne,hdc]⟩
  ·rw [hg c h2] at h3
   by_cases e:c = n
   ·subst e
    simp only [Rho.up_same,Option.some.injEq] at h4
    subst h4
    exact ⟨b,pl,hlk,hbn,hlive,hb,rfl⟩
   ·simp only [e,if_false] at h3
    simp only [Rho.up,e,if_false] at h4
    exact ⟨c,r,h1,by omega,h3,h4,rfl⟩
  ·have:=hE.kn
   rw [hg c (by omega),if_neg (by omega)]
end EV
end
noncomputable section
namespace EV
open Go
variable {P:Program} {g:Nat}
def ApOut (P:Program) (g lk:Nat) (ρ:Rho) (h:Heap) (n:Nat) (w:World) (r:Sem Value) (v:AV) (h':Heap) (n':Nat):Prop:=
 ∃ u ρ' w',r.run P w = .ok u w' ∧ VR ρ' v u ∧ Emb g lk ρ' h' n' w' ∧ Stp lk ρ h n w ρ' h' n' w'
theorem retag {lk:Nat} {ρ ρ':Rho} {h h2:Heap} {n n0:Nat} {w w':World} {a b q:Nat} {c:Cells} (hn:n < maxBlocks) (hE:Emb g lk ρ' (hset h2 n ⟨1,a,b,c,[],q⟩) (n + 1) w') (s:Stp lk ρ h n0 w ρ' (hset h2 n ⟨1,a,b,c,[],q⟩) (n + 1) w')
  (hlk:lk ≤ n) (hn0:n0 ≤ maxBlocks) (hk0:lk ≤ n0):Emb g lk ρ' (hset h2 n ⟨5,a,b,c,[],q⟩) (n + 1) w' ∧ Stp lk ρ h n0 w ρ' (hset h2 n ⟨5,a,b,c,[],q⟩) (n + 1) w':=by
 have hx:∀ d,d < maxBlocks → hget (hset h2 n ⟨1,a,b,c,[],q⟩) d = if d = n then ⟨1,a,b,c,[],q⟩ else hget h2 d:=fun d hd => hget_hset h2 n d _ hn hd
 have hy:∀ d,d < maxBlocks → hget (hset h2 n ⟨5,a,b,c,[],q⟩) d = if d = n then ⟨5,a,b,c,[],q⟩ else hget h2 d:=fun d hd => hget_hset h2 n d _ hn hd
 have hnn:hget (hset h2 n ⟨1,a,b,c,[],q⟩) n = ⟨1,a,b,c,[],q⟩:=(hx n hn).trans (if_pos rfl)
 have ht:(hget (hset h2 n ⟨1,a,b,c,[],q⟩) n).1 = 1:=by rw [hnn]
 generalize hset h2 n ⟨1,a,b,c,[],q⟩ = h3 at *
 generalize hset h2 n ⟨5,a,b,c,[],q⟩ = h5 at *
 have E4:=hE.shd (b:=n) (Nat.lt_succ_self n) hlk (.inl ht)
 have S4:=Stp.shd hE (b:=n) (Nat.lt_succ_self n) hlk (.inl ht)
 have hz:∀ d,d < maxBlocks → hget (hset h3 n (shd (hget h3 n))) d = if d = n then shd (hget h3 n) else hget h3 d:=fun d hd => hget_hset h3 n d _ hn hd
 have hcg:∀ d,d < maxBlocks → hget h5 d = hget (hset h3 n (shd (hget h3 n))) d:=fun d hd => by
  rw [hz d hd,hy d hd,hnn,hx d hd]
  by_cases y:d = n
  ·rw [if_pos y,if_pos y];rfl
  ·rw [if_neg y,if_neg y,if_neg y]
 exact ⟨E4.congr hcg,(Stp.trans s S4).congr hn0 E4.nb hk0 hcg⟩
theorem shrK_eq {e:TypeId} {sz:Nat} {cx:Cx} {v:AV} {k:Nat} {news:List AV} {h:Heap} {n:Nat} {K:Vk} (hk:(shrK e sz cx v k news h n K).ok) :
  v.3 = 0 ∧ v.4.3 = sz ∧ cx.1 ≤ v.2 ∧ v.4.2 < v.4.1 + k ∧ (v.4.1 + k) * sz ≤ maxCells ∧ n < maxBlocks ∧
  (hget (killH v.2 (n - (v.2 + 1)) h) v.2).2 = e ∧ (hget (killH v.2 (n - (v.2 + 1)) h) v.2).3 = v.4.1 * sz ∧ ((hget (killH v.2 (n - (v.2 + 1)) h) v.2).1 = 1 ∨ (hget (killH v.2 (n - (v.2 + 1)) h) v.2).1 = 5) ∧
  shrK e sz cx v k news h n K = K (mSl n 0 (v.4.1 + k) (v.4.1 + k) sz)
   (hset (hset (killH v.2 (n - (v.2 + 1)) h) v.2 (shd (hget (killH v.2 (n - (v.2 + 1)) h) v.2))) n
    ⟨5,e,(v.4.1 + k) * sz,setL news (hget (killH v.2 (n - (v.2 + 1)) h) v.2).3 (hget (killH v.2 (n - (v.2 + 1)) h) v.2).4,[],(hget (killH v.2 (n - (v.2 + 1)) h) v.2).6⟩) (n + 1):=by
 have hM:maxCells = 32768:=rfl
 have e0:shrK e sz cx v k news h n K = fT (Nat.add v.4.1 k) fun need => bA (bK (Nat.beq v.3 (nat_lit 0)) (bK (Nat.beq v.4.3 sz) (bK (Nat.ble cx.1 v.2) (Nat.blt v.4.2 need) false) false) false)
  (bA (Nat.ble (Nat.mul need sz) (nat_lit 32768)) (killK v.2 (Nat.sub n (Nat.succ v.2)) h fun h => rowOf h v.2 fun r =>
   bA (bK (Nat.beq r.2 e) (bK (Nat.beq r.3 (Nat.mul v.4.1 sz)) (bK (Nat.beq r.1 (nat_lit 1)) true (Nat.beq r.1 (nat_lit 5))) false) false)
    ((heapF v.2).2 ⟨(nat_lit 5),r.2,r.3,r.4,[],r.6⟩ h fun h => setN news r.3 r.4 fun c => fT (Nat.mul need sz) fun bl =>
     newK ⟨(nat_lit 5),e,bl,c,[],r.6⟩ h n fun h m => K (mSl n (nat_lit 0) need need sz) h m) (.fail 103)) (.fail 102)) (.fail 101):=rfl
 rw [e0,fT_eq] at hk ⊢
 obtain ⟨h1,e1⟩:=bA_ok hk
 rw [e1] at hk ⊢
 obtain ⟨h2,e2⟩:=bA_ok hk
 rw [e2,killK_eq] at hk ⊢
 obtain ⟨hr,e3⟩:=rowOf_ok hk
 rw [e3] at hk ⊢
 obtain ⟨h3,e4⟩:=bA_ok hk
 rw [e4,heapF_put,setN_eq,fT_eq] at hk ⊢
 obtain ⟨h4,e5⟩:=newK_ok hk
 obtain ⟨a1,a2⟩:=bK_t h1
 obtain ⟨a2,a3⟩:=bK_t a2
 obtain ⟨a3,a4⟩:=bK_t a3
 obtain ⟨b1,b2⟩:=bK_t h3
 obtain ⟨b2,b3⟩:=bK_t b2
 have a1:v.3 = 0:=Nat.eq_of_beq_eq_true a1
 have a2:v.4.3 = sz:=Nat.eq_of_beq_eq_true a2
 have a3:cx.1 ≤ v.2:=Nat.le_of_ble_eq_true a3
 have a4:v.4.2 < v.4.1 + k:=bltE a4
 have h2:(v.4.1 + k) * sz ≤ 32768:=Nat.le_of_ble_eq_true h2
 have hsub:Nat.sub n (Nat.succ v.2) = n - (v.2 + 1):=rfl
 rw [hsub] at hr b1 b2 b3 e5 ⊢
 have b1:(hget (killH v.2 (n - (v.2 + 1)) h) v.2).2 = e:=Nat.eq_of_beq_eq_true b1
 have b2:(hget (killH v.2 (n - (v.2 + 1)) h) v.2).3 = v.4.1 * sz:=Nat.eq_of_beq_eq_true b2
 refine ⟨a1,a2,a3,a4,h2,h4,b1,b2,?_,e5⟩
 by_cases c:(hget (killH v.2 (n - (v.2 + 1)) h) v.2).1 = 1
 ·exact .inl c
 ·rw [nbF c] at b3
  exact .inr (Nat.eq_of_beq_eq_true b3)
theorem shrK_ok {t t2 e:TypeId} {i:TypeInfo} {z:Value} (hA:ApIn P t t2 e i z) {cx:Cx} {v:AV} {k:Nat} {news:List AV} {h:Heap} {n:Nat} {K:Vk} (hnl:news.length = k * i.size) (hk0:k ≠ 0) (h4:v.1 = 4) (hk:(shrK e i.size cx v k news h n K).ok) :
  ∃ v' h' n',shrK e i.size cx v k news h n K = K v' h' n' ∧ ∀ (ρ:Rho) (w:World) (u x:Value) (us:List Value),Emb g cx.1 ρ h n w → VR ρ v u → VRs ρ news us → App P t t2 e i z x k us w → ∀ ty,
   ApOut P g cx.1 ρ h n w (Builtin.append_ #[t,t2] ty #[u,x]) v' h' n':=by
 have hM:maxCells = 32768:=rfl
 obtain ⟨z0,hex,hlk,hneed,hmax,hn,he,h3,htag,e0⟩:=shrK_eq hk
 refine ⟨_,_,_,e0,fun ρ w u x us hE hv hnews ha ty => ?_⟩
 clear e0 hk
 obtain ⟨pl,A,cap,hp,hu,c1,c2,c3,c4⟩:=VR_4 hv h4
 have hbn:=(hE.bd _ _ hp).1
 obtain ⟨E1,S1⟩:=kill_step hlk (n - (v.2 + 1)) h (by omega) hE
 have hyoung:∀ c,v.2 < c → c < n → (hget (killH v.2 (n - (v.2 + 1)) h) c).1 ≠ 5:=fun c g1 g2 => (kill_get (n - (v.2 + 1)) h (by omega) c (by omega)).2.2 g1 (by omega)
 generalize killH v.2 (n - (v.2 + 1)) h = h1 at *
 have E2:=E1.shd hbn hlk htag
 have S2:=Stp.shd E1 hbn hlk htag
 have hr1:isRow (hget h1 v.2) = true:=by
  rcases htag with c | c
  ·unfold isRow;rw [nbT c];rfl
  ·unfold isRow;rw [c];rfl
 have hg2:∀ c,c < maxBlocks → hget (hset h1 v.2 (shd (hget h1 v.2))) c = if c = v.2 then shd (hget h1 v.2) else hget h1 c:=fun c hc => hget_hset h1 v.2 c _ (by omega) hc
 have hlen:=VRs_len hnews
 have hmul:(v.4.1 + k) * i.size = v.4.1 * i.size + k * i.size:=Nat.add_mul _ _ _
 have hc:∀ j,j < (v.4.1 + k) * i.size → (setL news (hget h1 v.2).3 (hget h1 v.2).4).get j = if j < v.4.1 * i.size then (hget h1 v.2).4.get (v.3 + j) else news.getD (j - v.4.1 * i.size) undefA:=fun j hj => by
  rw [setL_get news (hget h1 v.2).3 (hget h1 v.2).4 j (by rw [h3,hnl];omega) (by omega),h3,z0,Nat.zero_add]
  by_cases hj2:j < v.4.1 * i.size
  ·rw [if_neg (by omega),if_pos hj2]
  ·rw [if_pos (by rw [hnl];omega),if_neg hj2]
 obtain ⟨d1,d2⟩:=c2 (by rw [hex];exact hA.h0)
 rw [hex] at d2
 rw [hu]
 have hol:v.3 + v.4.1 * i.size ≤ (hget h1 v.2).3:=by rw [h3,z0];omega
 by_cases hfit:v.4.1 + k ≤ cap
 ·have hAd:A = ⟨pl.B,pl.o + v.3,none⟩:=c3.resolve_right (by omega)
  subst hAd
  rw [z0,Nat.add_zero]
  rw [z0] at hc hol d2
  obtain ⟨sh,le1,le2,_,fz⟩:=row_of E1 hp hr1
  have hlive:(hget h1 v.2).1 ≠ 0:=by rcases htag with c | c <;> rw [c] <;> decide
  obtain ⟨q0,q1,q2⟩:=E1.ob v.2 hbn hlive
  rw [hp] at q1
  cases q1
  have hcm:(v.4.1 + k) * i.size ≤ cap * i.size:=Nat.mul_le_mul_right _ hfit
  have hexs:∀ j,j < us.length → (w.cell? ⟨pl.B,pl.o + 0 + v.4.1 * i.size + j,none⟩).isSome = true:=fun j hj => cell_some sh (by rw [ha.newsLen] at hj;omega)
  have hrun:=ha.room ty pl.B pl.o v.4.1 cap (by omega) hexs (fun j hj => by
   cases hf:w.frozen? ⟨pl.B,pl.o + v.4.1 * i.size + j,none⟩ with
   | false => rfl
   | true => have:=fz htag _ hf;rw [ha.newsLen] at hj;omega)
  obtain ⟨r1,r2,r3,r4,r5⟩:=setCells_rest pl.B us (pl.o + v.4.1 * i.size) w
  have hle:ρ.le (ρ.up n ⟨pl.B,pl.o,pl.R⟩):=Rho.le_up E2 _
  have hO:=OW_move (q2.keep hle rfl) htag (tg:=5) (.inr rfl) (o:=0) (s:=i.size) (k:=k) (q:=(hget h1 v.2).6) (VRs.mono hle _ _ hnews) ha.one (by rw [hlen,ha.newsLen]) rfl hol d2 hfit hmax (fun c => ⟨rfl,c⟩) hc hexs
  rw [he] at hO
  obtain ⟨E3,S3⟩:=share_step E2 hp hlk (by rw [hg2 _ (by omega),if_pos rfl];rfl) (fun c g1 g2 => by rw [hg2 c (by omega),if_neg (by omega)];exact hyoung c g1 g2) hn
   (ao:=⟨5,e,(v.4.1 + k) * i.size,setL news (hget h1 v.2).3 (hget h1 v.2).4,[],(hget h1 v.2).6⟩) rfl (by rw [hg2 _ (by omega),if_pos rfl];change (hget h1 v.2).3 ≤ (v.4.1 + k) * i.size;rw [h3];omega)
   r2 r3 r4 r1 r5 (shape?_setCells _ _ _ _ _) (fun off => by rw [World.frozen?_setCells]) (fun j hj => World.cell?_setCells_out pl.B us (pl.o + v.4.1 * i.size) w _ (fun _ _ => by
    rw [hg2 _ (by omega),if_pos rfl] at hj
    have hj:j < pl.o + (hget h1 v.2).3:=hj
    rw [h3] at hj
    simp only;omega)) hO
  refine ⟨_,_,_,hrun,⟨_,_,cap,Rho.up_same _ _ _,rfl,fun c => absurd c hA.h0,fun _ => ⟨hfit,?_⟩,.inl rfl,hfit⟩,E3,Stp.trans S1 (Stp.trans S2 S3)⟩
  change 0 + cap * i.size ≤ pl.R
  omega
 ·obtain ⟨u',ρ',w',g1,g2,g3,g4⟩:=ap_grow (cap:=cap) hA E1 hn hnews ha E2 S2 hp hr1 hol rfl (by omega) hmax hc ty A (q:=(hget h1 v.2).6) fun _ => c3.resolve_right (by omega)
  obtain ⟨E4,S4⟩:=retag hn g3 g4 (by have:=hE.kn;omega) hE.nb hE.kn
  exact ⟨u',ρ',w',g1,g2,E4,Stp.trans S1 S4⟩
end EV
end
noncomputable section
namespace EV
open Go
variable {P:Program} {g:Nat}
theorem run_copyG (w w':World) (dT sT ty e:TypeId) (s:Nat) (hd:P.underlying dT = some (.slice e)) (hs:szOf P e = some s) (d:Option Addr) (dLen dCap sLen sCap:Nat) (b:Option Addr) (cs:Array Value)
  (hfc:(Builtin.firstCells s (Nat.min sLen dLen) (.slice b sLen sCap)).run P w = .ok cs w) (hst:∀ a,d = some a → (storeCells a cs.toList).run P w = .ok () w') (hn:d = none → w' = w) :
  (Builtin.copy_ #[dT,sT] ty #[.slice d dLen dCap,.slice b sLen sCap]).run P w = .ok (goInt (Nat.min sLen dLen)) w':=by
 cases d with
 | none =>
  rw [hn rfl]
  simp [Builtin.copy_,run_underlying hd,Builtin.lenOf,run_sizeOf' hs,hfc]
 | some a => simp [Builtin.copy_,run_underlying hd,Builtin.lenOf,run_sizeOf' hs,hfc,hst a rfl]
theorem load0 (w:World) (a:Addr):(loadCells a 0).run P w = .ok #[] w:=by simpa using run_loadCells_list (P:=P) w a [] (by simp)
theorem first0 (s:Nat) (b:Option Addr) (l c:Nat) (w:World):(Builtin.firstCells s 0 (.slice b l c)).run P w = .ok #[] w:=by
 cases b <;> simp [Builtin.firstCells,load0]
theorem eCopy_ok {ts:List TypeId}:BuOK P g .copy ts (eCopy P ts):=
 oB_ok fun t ht => oB_ok fun e he => oB_ok fun s hs => by
  cases c1:Nat.beq (len ts) (nat_lit 2) with
  | false => exact badB_ok
  | true =>
  obtain ⟨d,hd,hde⟩:=oK_some (show oK none (P.underlying t) elemD = some e from he)
  have hd':P.underlying t = some (.slice e):=by
   cases d with
   | slice x => cases hde;exact hd
   | _ => cases hde
  rw [len_eq] at c1
  have c1:=Nat.eq_of_beq_eq_true c1
  obtain ⟨t2,hts⟩:∃ t2,ts = [t,t2]:=by
   match ts,c1,ht with
   | [a,b],_,ht => simp at ht;exact ⟨b,by rw [ht]⟩
  intro cx l h n K hk
  have hk:(copyK s cx l h n K).ok:=hk
  change ∃ v h' n',copyK s cx l h n K = K v h' n' ∧ _
  unfold copyK at hk ⊢
  obtain ⟨h0,e1⟩:=bA_ok hk
  rw [e1] at hk ⊢
  rw [len_eq] at h0
  have h0:=Nat.eq_of_beq_eq_true h0
  have two:∀ (ρ:Rho) (args:Array Value),VRs ρ l args.toList → ∃ u x,args = #[u,x] ∧ VR ρ (nth l 0) u ∧ VR ρ (nth l 1) x:=fun ρ args hr => by
   obtain ⟨u,u',e,r1,r2⟩:=VRs_two hr h0
   exact ⟨u,u',by rw [← Array.toArray_toList (xs:=args),e],r1,r2⟩
  have fin:∀ (args:Array Value) (w w':World) (tys:Array TypeId) (type:TypeId) (cs:Array Bool) (u x:Value) (m:Nat),tys.toList = ts → args = #[u,x] →
    (Builtin.copy_ #[t,t2] type #[u,x]).run P w = .ok (goInt m) w' → (builtin .copy tys type cs args).run P w = .ok (.value (goInt m)) w':=fun args w w' tys type cs u x m hty ha ho => by
   have htys:tys = #[t,t2]:=by rw [← Array.toArray_toList (xs:=tys),hty,hts]
   simp only [builtin,htys,ha,Sem.run_bind,ho,Result.andThen_ok,Sem.run_pure]
  have zero:∀ ρ:Rho,VR ρ (mInt 19 0) (goInt 0):=fun ρ => VR_mInt (ρ:=ρ) .i64 (m:=0) (by decide)
  have none0:∀ (w:World) (type:TypeId) (d b:Option Addr) (dl dc sl sc:Nat),Nat.min sl dl = 0 → (Builtin.copy_ #[t,t2] type #[.slice d dl dc,.slice b sl sc]).run P w = .ok (goInt 0) w:=fun w type d b dl dc sl sc h0 => by
   have:=run_copyG (P:=P) w w t t2 type e s hd' hs d dl dc sl sc b #[] (by rw [h0];exact first0 _ _ _ _ _) (fun a _ => rfl) (fun _ => rfl)
   rwa [h0] at this
  rcases slK_ok hk with ⟨h4,e1⟩ | ⟨h6,h7,e1⟩
  ·rw [e1] at hk ⊢
   rcases slK_ok hk with ⟨k4,e1⟩ | ⟨k6,k7,e1⟩
   ·rw [e1,fT_eq] at hk ⊢
    have hmin:bK (Nat.ble (nth l 1).4.1 (nth l 0).4.1) (nth l 1).4.1 (nth l 0).4.1 = Nat.min (nth l 1).4.1 (nth l 0).4.1:=by
     cases c:Nat.ble (nth l 1).4.1 (nth l 0).4.1 with
     | true => have:=Nat.le_of_ble_eq_true c;exact (Nat.min_eq_left this).symm
     | false =>
      have:¬ (nth l 1).4.1 ≤ (nth l 0).4.1:=fun h => by rw [bleT h] at c;cases c
      exact (Nat.min_eq_right (Nat.le_of_lt (Nat.lt_of_not_le this))).symm
    have hmin':bK (Nat.ble (nth l (nat_lit 1)).4.1 (nth l (nat_lit 0)).4.1) (nth l (nat_lit 1)).4.1 (nth l (nat_lit 0)).4.1 = Nat.min (nth l 1).4.1 (nth l 0).4.1:=hmin
    rw [hmin'] at hk ⊢
    by_cases hm:Nat.min (nth l 1).4.1 (nth l 0).4.1 = 0
    ·rw [nbT hm,bA_true]
     refine ⟨_,_,_,rfl,fun ρ args w hE hr tys type cs hty => ?_⟩
     obtain ⟨u,x,ha,r1,r2⟩:=two ρ args hr
     obtain ⟨_,A,cap,_,hu,_⟩:=VR_4 r1 k4
     obtain ⟨_,B,cap2,_,hx,_⟩:=VR_4 r2 h4
     exact ⟨goInt 0,ρ,w,fin args w w tys type cs u x 0 hty ha (by rw [hu,hx];exact none0 w type _ _ _ _ _ _ hm),zero ρ,hE,Stp.refl _ _ _ _ _⟩
    ·rw [nbF hm,bA_false] at hk ⊢
     obtain ⟨hr0,e1⟩:=rowOf_ok hk
     rw [e1] at hk ⊢
     obtain ⟨h8,e1⟩:=bA_ok hk
     rw [e1,getN_eq] at hk ⊢
     obtain ⟨g1,g2,g3,e1⟩:=storeK_ok hk
     rw [e1] at hk ⊢
     obtain ⟨e1,hlv⟩:=lenK_ok hk
     rw [e1]
     refine ⟨_,_,_,rfl,fun ρ args w hE hr tys type cs hty => ?_⟩
     obtain ⟨u,x,ha,r1,r2⟩:=two ρ args hr
     obtain ⟨pl,A,cap,hp,hu,_,_,c3,c4⟩:=VR_4 r1 k4
     obtain ⟨pl2,B,cap2,hp2,hx,_,_,d3,d4⟩:=VR_4 r2 h4
     have h8:(nth l 1).3 + Nat.min (nth l 1).4.1 (nth l 0).4.1 * s ≤ (hget h (nth l 1).2).3:=Nat.le_of_ble_eq_true h8
     have hm1:Nat.min (nth l 1).4.1 (nth l 0).4.1 ≤ (nth l 1).4.1:=Nat.min_le_left _ _
     have hm2:Nat.min (nth l 1).4.1 (nth l 0).4.1 ≤ (nth l 0).4.1:=Nat.min_le_right _ _
     have hA:A = ⟨pl.B,pl.o + (nth l 0).3,none⟩:=c3.resolve_right (by omega)
     have hB:B = ⟨pl2.B,pl2.o + (nth l 1).3,none⟩:=d3.resolve_right (by omega)
     obtain ⟨_,_,_,hcell,_⟩:=row_of hE hp2 hr0
     obtain ⟨us,q1,q2,q3,q4⟩:=cells_list hcell (Nat.min (nth l 1).4.1 (nth l 0).4.1 * s) (nth l 1).3 h8
     have hgl:(getL (Nat.mul (Nat.min (nth l 1).4.1 (nth l 0).4.1) s) (nth l 1).3 (hget h (nth l 1).2).4).length = Nat.min (nth l 1).4.1 (nth l 0).4.1 * s:=getL_length ..
     obtain ⟨_,hst,hE',hS'⟩:=store_step (P:=P) hE hp g1 g2 (o:=(nth l 0).3) q4 q3 (by exact (congrArg (fun q => (nth l 0).3 + q ≤ (hget h (nth l 0).2).3) hgl).mpr g3)
     refine ⟨goInt (Nat.min (nth l 1).4.1 (nth l 0).4.1),ρ,_,fin args w _ tys type cs u x _ hty ha ?_,hlv ρ,hE',hS'⟩
     rw [hu,hx]
     refine run_copyG (P:=P) w _ t t2 type e s hd' hs (some A) _ _ _ _ (some B) us.toArray ?_ (fun a ha => ?_) (fun c => by cases c)
     ·refine run_firstCells_some w s _ B _ _ us q1 fun j v hj => ?_
      rw [hB,addr_add]
      exact q2 j v hj
     ·cases ha
      rw [hA]
      exact hst
   ·rw [e1]
    refine ⟨_,_,_,rfl,fun ρ args w hE hr tys type cs hty => ?_⟩
    obtain ⟨u,x,ha,r1,r2⟩:=two ρ args hr
    have hu:=VR_6 r1 k6
    rw [k7] at hu
    obtain ⟨_,B,cap2,_,hx,_⟩:=VR_4 r2 h4
    exact ⟨goInt 0,ρ,w,fin args w w tys type cs u x 0 hty ha (by rw [hu,hx];exact none0 w type none _ 0 0 _ _ (Nat.min_zero _)),zero ρ,hE,Stp.refl _ _ _ _ _⟩
  ·rw [e1] at hk ⊢
   rcases slK_ok hk with ⟨k4,e1⟩ | ⟨k6,k7,e1⟩
   ·rw [e1]
    refine ⟨_,_,_,rfl,fun ρ args w hE hr tys type cs hty => ?_⟩
    obtain ⟨u,x,ha,r1,r2⟩:=two ρ args hr
    have hx:=VR_6 r2 h6
    rw [h7] at hx
    obtain ⟨_,A,cap,_,hu,_⟩:=VR_4 r1 k4
    exact ⟨goInt 0,ρ,w,fin args w w tys type cs u x 0 hty ha (by rw [hu,hx];exact none0 w type _ none _ _ 0 0 (Nat.zero_min _)),zero ρ,hE,Stp.refl _ _ _ _ _⟩
   ·rw [e1]
    refine ⟨_,_,_,rfl,fun ρ args w hE hr tys type cs hty => ?_⟩
    obtain ⟨u,x,ha,r1,r2⟩:=two ρ args hr
    have hu:=VR_6 r1 k6
    have hx:=VR_6 r2 h6
    rw [k7] at hu
    rw [h7] at hx
    exact ⟨goInt 0,ρ,w,fin args w w tys type cs u x 0 hty ha (by rw [hu,hx];exact none0 w type none none 0 0 0 0 rfl),zero ρ,hE,Stp.refl _ _ _ _ _⟩
end EV
end
noncomputable section
namespace EV
open Go
variable {P:Program} {g:Nat}
theorem appK_ok {t t2 e:TypeId} {i:TypeInfo} {z:Value} (hA:ApIn P t t2 e i z) {cx:Cx} {v:AV} {k:Nat} {news:List AV} {h:Heap} {n:Nat} {K:Vk} (hnl:news.length = k * i.size) (hk0:k ≠ 0) (h4:v.1 = 4) (hk:(appK e i.size cx v k news h n K).ok) :
  ∃ v' h' n',appK e i.size cx v k news h n K = K v' h' n' ∧ ∀ (ρ:Rho) (w:World) (u x:Value) (us:List Value),Emb g cx.1 ρ h n w → VR ρ v u → VRs ρ news us → App P t t2 e i z x k us w → ∀ ty,
   ApOut P g cx.1 ρ h n w (Builtin.append_ #[t,t2] ty #[u,x]) v' h' n':=by
 have hk:(fT (Nat.add v.4.1 k) fun need => bA (Nat.ble need v.4.2)
  (fT (Nat.add v.3 (Nat.mul v.4.1 i.size)) fun at_ => storeK cx.1 v.2 at_ (Nat.mul k i.size) news h fun h => K (mSl v.2 v.3 need v.4.2 v.4.3) h n)
  (bA (Nat.beq v.4.3 (nat_lit 0)) (bA (Nat.beq v.4.1 (nat_lit 0)) (rowK e news h n fun h m => K (mSl n (nat_lit 0) need need i.size) h m) (rowOf h v.2 fun r => growK (nat_lit 0) e r v.3 v.4.1 i.size need news h n K))
   (bA (Nat.beq v.4.3 i.size) (bA (Nat.ble cx.1 v.2) (rowOf h v.2 fun r => bA (Nat.beq r.1 (nat_lit 1)) (bA (Nat.beq r.2 e) (fT (Nat.add v.3 r.6) fun q => (heapF v.2).2 dead h fun h => growK q e r v.3 v.4.1 i.size need news h n K) (.fail 59)) (.fail 59)) (.fail 59)) (.fail 59)))).ok:=hk
 change ∃ v' h' n',(fT (Nat.add v.4.1 k) fun need => bA (Nat.ble need v.4.2)
  (fT (Nat.add v.3 (Nat.mul v.4.1 i.size)) fun at_ => storeK cx.1 v.2 at_ (Nat.mul k i.size) news h fun h => K (mSl v.2 v.3 need v.4.2 v.4.3) h n)
  (bA (Nat.beq v.4.3 (nat_lit 0)) (bA (Nat.beq v.4.1 (nat_lit 0)) (rowK e news h n fun h m => K (mSl n (nat_lit 0) need need i.size) h m) (rowOf h v.2 fun r => growK (nat_lit 0) e r v.3 v.4.1 i.size need news h n K))
   (bA (Nat.beq v.4.3 i.size) (bA (Nat.ble cx.1 v.2) (rowOf h v.2 fun r => bA (Nat.beq r.1 (nat_lit 1)) (bA (Nat.beq r.2 e) (fT (Nat.add v.3 r.6) fun q => (heapF v.2).2 dead h fun h => growK q e r v.3 v.4.1 i.size need news h n K) (.fail 59)) (.fail 59)) (.fail 59)) (.fail 59)))) = K v' h' n' ∧ _
 rw [fT_eq] at hk ⊢
 have hadd:Nat.add v.4.1 k = v.4.1 + k:=rfl
 rw [hadd] at hk ⊢
 have hmul:(v.4.1 + k) * i.size = v.4.1 * i.size + k * i.size:=Nat.add_mul _ _ _
 cases hroom:Nat.ble (v.4.1 + k) v.4.2 with
 | true =>
  rw [hroom,bA_true,fT_eq] at hk
  rw [bA_true,fT_eq]
  obtain ⟨g1,g2,g3,e1⟩:=storeK_ok hk
  rw [e1]
  refine ⟨_,_,_,rfl,fun ρ w u x us hE hv hnews ha ty => ?_⟩
  obtain ⟨pl,A,cap,hp,hu,c1,c2,c3,c4⟩:=VR_4 hv h4
  have hroom:v.4.1 + k ≤ v.4.2:=Nat.le_of_ble_eq_true hroom
  have hle:v.4.2 ≤ cap:=by
   by_cases y:v.4.3 = 0
   ·rw [c1 y];exact Nat.le_refl _
   ·exact (c2 y).1
  have hAd:A = ⟨pl.B,pl.o + v.3,none⟩:=c3.resolve_right (by omega)
  subst hAd
  have g3:v.3 + v.4.1 * i.size + k * i.size ≤ (hget h v.2).3:=g3
  have hlen:=VRs_len hnews
  have hr:isRow (hget h v.2) = true:=by unfold isRow;rw [nbT g2];rfl
  obtain ⟨sh,le1,_,_,fz⟩:=row_of hE hp hr
  obtain ⟨_,_,hE',hS'⟩:=store_step (P:=P) hE hp g1 g2 (o:=v.3 + v.4.1 * i.size) hnews ha.one (by rw [hnl];exact g3)
  have hass:pl.o + (v.3 + v.4.1 * i.size) = pl.o + v.3 + v.4.1 * i.size:=by omega
  have hrun:=ha.room ty pl.B (pl.o + v.3) v.4.1 cap (by omega) (fun j hj => cell_some sh (by rw [ha.newsLen] at hj;omega)) (fun j hj => by
   cases hf:w.frozen? ⟨pl.B,pl.o + v.3 + v.4.1 * i.size + j,none⟩ with
   | false => rfl
   | true => have:=fz (.inl g2) _ hf;rw [ha.newsLen] at hj;omega)
  rw [hass] at hE' hS'
  rw [hu]
  refine ⟨_,ρ,_,hrun,⟨pl,_,cap,hp,rfl,c1,c2,.inl rfl,?_⟩,hE',hS'⟩
  change v.4.1 + k ≤ cap
  omega
 | false =>
  rw [hroom,bA_false] at hk
  rw [bA_false]
  have hroom:v.4.2 < v.4.1 + k:=by
   rcases Nat.lt_or_ge v.4.2 (v.4.1 + k) with c | c
   ·exact c
   ·have hroom:Nat.ble (v.4.1 + k) v.4.2 = false:=hroom
    rw [bleT c] at hroom;cases hroom
  by_cases hex:v.4.3 = 0
  ·rw [nbT hex,bA_true] at hk ⊢
   by_cases hl0:v.4.1 = 0
   ·rw [nbT hl0,bA_true] at hk ⊢
    obtain ⟨g1,g2,e1⟩:=rowK_ok hk
    rw [e1]
    refine ⟨_,_,_,rfl,fun ρ w u x us hE hv hnews ha ty => ?_⟩
    obtain ⟨pl,A,cap,hp,hu,c1,c2,c3,c4⟩:=VR_4 hv h4
    have hcap:=c1 hex
    have hold:=run_firstCells_some (P:=P) w.drew i.size 0 A 0 cap [] (by simp) (fun j v hj => by simp at hj)
    rw [hu,hl0]
    have:=ap_new hA hE g2 hnews ha g1 ty (some A) cap (by omega) hold
    rw [Nat.zero_add]
    exact this
   ·rw [nbF hl0,bA_false] at hk ⊢
    obtain ⟨hr,e1⟩:=rowOf_ok hk
    rw [e1] at hk ⊢
    obtain ⟨c,e1,g1,g2,g3,g4⟩:=growK_ok hnl rfl hk
    rw [e1]
    refine ⟨_,_,_,rfl,fun ρ w u x us hE hv hnews ha ty => ?_⟩
    obtain ⟨pl,A,cap,hp,hu,c1,c2,c3,c4⟩:=VR_4 hv h4
    have hcap:=c1 hex
    rw [hu]
    exact ap_grow hA hE g2 hnews ha hE (Stp.refl _ _ _ _ _) hp hr g3 rfl (by omega) g1 g4 ty A fun _ => c3.resolve_right (by omega)
  ·rw [nbF hex,bA_false] at hk ⊢
   obtain ⟨h5,e1⟩:=bA_ok hk
   rw [e1] at hk ⊢
   obtain ⟨h6,e1⟩:=bA_ok hk
   rw [e1] at hk ⊢
   obtain ⟨hr,e1⟩:=rowOf_ok hk
   rw [e1] at hk ⊢
   obtain ⟨h7,e1⟩:=bA_ok hk
   rw [e1] at hk ⊢
   obtain ⟨h8,e1⟩:=bA_ok hk
   rw [e1,fT_eq,heapF_put] at hk ⊢
   obtain ⟨c,e1,g1,g2,g3,g4⟩:=growK_ok hnl rfl hk
   rw [e1]
   refine ⟨_,_,_,rfl,fun ρ w u x us hE hv hnews ha ty => ?_⟩
   obtain ⟨pl,A,cap,hp,hu,c1,c2,c3,c4⟩:=VR_4 hv h4
   have h5:v.4.3 = i.size:=Nat.eq_of_beq_eq_true h5
   have h7:(hget h v.2).1 = 1:=Nat.eq_of_beq_eq_true h7
   have h8:(hget h v.2).2 = e:=Nat.eq_of_beq_eq_true h8
   obtain ⟨d1,d2⟩:=c2 hex
   rw [h5] at d2
   rw [hu]
   by_cases hfit:v.4.1 + k ≤ cap
   ·have hAd:A = ⟨pl.B,pl.o + v.3,none⟩:=c3.resolve_right (by omega)
    subst hAd
    exact ap_move hA hE g2 hnews ha hp (Nat.le_of_ble_eq_true h6) h7 h8 g3 rfl hfit d2 g1 (fun c => by
     have c:v.3 + (hget h v.2).6 = 0:=c
     omega) g4 ty
   ·have hlive:(hget h v.2).1 ≠ 0:=by rw [h7];decide
    have hlk:cx.1 ≤ v.2:=Nat.le_of_ble_eq_true h6
    exact ap_grow hA hE g2 hnews ha (hE.write hp hlk hlive (by omega) (by exact fun c => by cases c) (fun c => absurd (show dead.1 = 0 from rfl) c) rfl fun _ _ => rfl) (Stp.write hE hp hlk hlive rfl rfl rfl rfl fun _ _ => rfl) hp hr g3 rfl (by omega) g1 g4 ty A fun _ => c3.resolve_right (by omega)
theorem appB_ok {sh:Bool} {t t2 e:TypeId} {i:TypeInfo} {z:Value} (hA:ApIn P t t2 e i z) {cx:Cx} {v:AV} {k:Nat} {news:List AV} {h:Heap} {n:Nat} {K:Vk} (hnl:news.length = k * i.size) (hk0:k ≠ 0) (h4:v.1 = 4) (hk:(bA sh (shrK e i.size cx v k news h n K) (appK e i.size cx v k news h n K)).ok) :
  ∃ v' h' n',(bA sh (shrK e i.size cx v k news h n K) (appK e i.size cx v k news h n K)) = K v' h' n' ∧ ∀ (ρ:Rho) (w:World) (u x:Value) (us:List Value),Emb g cx.1 ρ h n w → VR ρ v u → VRs ρ news us → App P t t2 e i z x k us w → ∀ ty,
   ApOut P g cx.1 ρ h n w (Builtin.append_ #[t,t2] ty #[u,x]) v' h' n':=by
 cases sh with
 | true => exact shrK_ok hA hnl hk0 h4 hk
 | false => exact appK_ok hA hnl hk0 h4 hk
theorem eAppend_ok {sh:Bool} {ts:List TypeId}:BuOK P g .append ts (eAppend sh P ts):=
 oB_ok fun t ht => oB_ok fun e he => oB_ok fun i hi => oB_ok fun t2 ht2 => oB_ok fun d2 hd2 => oB_ok fun zl hzl => by
  cases c1:Nat.beq (len ts) (nat_lit 2) with
  | false => exact badB_ok
  | true =>
   cases c2:Nat.beq (len zl) i.size with
   | false => exact badB_ok
   | true =>
    cases c3:Nat.beq i.size (nat_lit 0) with
    | true => exact badB_ok
    | false =>
     cases c4:Nat.ble i.bytes (nat_lit 1073741824) with
     | false => exact badB_ok
     | true =>
      simp only [bK,fT_eq]
      obtain ⟨i',z,hi',hz,hc⟩:=zeroOf_spec hzl
      rw [hi] at hi'
      cases hi'
      obtain ⟨d,hd,hde⟩:=oK_some (show oK none (P.underlying t) elemD = some e from he)
      have hd':P.underlying t = some (.slice e):=by
       cases d with
       | slice x => cases hde;exact hd
       | _ => cases hde
      rw [len_eq] at c1 c2
      have c1:=Nat.eq_of_beq_eq_true c1
      have c2:=Nat.eq_of_beq_eq_true c2
      have hzs:z.cells.size = i.size:=by rw [← c2,VRs_len (constCells_rel (ρ:=fun _ => none) hc).1];simp
      have hA:ApIn P t t2 e i z:=⟨hd',hi,hz,hzs,fun c => (by rw [nbT c] at c3;cases c3),Nat.le_of_ble_eq_true c4⟩
      have hts:ts = [t,t2]:=by
       match ts,c1,ht,ht2 with
       | [a,b],_,ht,ht2 => simp at ht ht2;rw [ht,ht2]
      intro cx l h n K hk
      have hk:(bA (Nat.beq (len l) (nat_lit 2)) (slK (nth l (nat_lit 0))
       ((nwD P e i.size d2).1 (nth l (nat_lit 1)) h fun k news => bA (Nat.beq k (nat_lit 0)) (K (nth l (nat_lit 0)) h n) (rowK e news h n fun h m => K (mSl n (nat_lit 0) k k i.size) h m))
       fun v => (nwD P e i.size d2).1 (nth l (nat_lit 1)) h fun k news => bA (Nat.beq k (nat_lit 0)) (K v h n) (bA sh (shrK e i.size cx v k news h n K) (appK e i.size cx v k news h n K))) (.fail 97)).ok:=hk
      change ∃ v h' n',(bA (Nat.beq (len l) (nat_lit 2)) (slK (nth l (nat_lit 0))
       ((nwD P e i.size d2).1 (nth l (nat_lit 1)) h fun k news => bA (Nat.beq k (nat_lit 0)) (K (nth l (nat_lit 0)) h n) (rowK e news h n fun h m => K (mSl n (nat_lit 0) k k i.size) h m))
       fun v => (nwD P e i.size d2).1 (nth l (nat_lit 1)) h fun k news => bA (Nat.beq k (nat_lit 0)) (K v h n) (bA sh (shrK e i.size cx v k news h n K) (appK e i.size cx v k news h n K))) (.fail 97)) = K v h' n' ∧ _
      obtain ⟨h0,e1⟩:=bA_ok hk
      rw [e1] at hk ⊢
      rw [len_eq] at h0
      have h0:=Nat.eq_of_beq_eq_true h0
      have fin:∀ (ρ:Rho) (args:Array Value) (w:World) (lk:Nat) (v:AV) (h':Heap) (n':Nat) (tys:Array TypeId) (type:TypeId) (cs:Array Bool) (u x:Value),tys.toList = ts → args = #[u,x] →
        ApOut P g lk ρ h n w (Builtin.append_ #[t,t2] type #[u,x]) v h' n' → ∃ u ρ' w',(builtin .append tys type cs args).run P w = .ok (.value u) w' ∧ VR ρ' v u ∧ Emb g lk ρ' h' n' w' ∧ Stp lk ρ h n w ρ' h' n' w':=fun ρ args w lk v h' n' tys type cs u x hty ha ho => by
       obtain ⟨y,ρ',w',r1,r2,r3,r4⟩:=ho
       have htys:tys = #[t,t2]:=by rw [← Array.toArray_toList (xs:=tys),hty,hts]
       refine ⟨y,ρ',w',?_,r2,r3,r4⟩
       simp only [builtin,htys,ha,Sem.run_bind,r1,Result.andThen_ok,Sem.run_pure]
      have two:∀ (ρ:Rho) (args:Array Value),VRs ρ l args.toList → ∃ u x,args = #[u,x] ∧ VR ρ (nth l 0) u ∧ VR ρ (nth l 1) x:=fun ρ args hr => by
       obtain ⟨u,u',e,r1,r2⟩:=VRs_two hr h0
       exact ⟨u,u',by rw [← Array.toArray_toList (xs:=args),e],r1,r2⟩
      have hnw:=nwD_ok (g:=g) hd' hi hz hd2 hzl c2 hA.hb
      rcases slK_ok hk with ⟨h4,e1⟩ | ⟨h6,h7,e1⟩
      ·rw [e1] at hk ⊢
       obtain ⟨m,news,e1,hnl,hsp⟩:=hnw _ _ _ hk
       rw [e1] at hk ⊢
       by_cases hm:m = 0
       ·rw [nbT hm,bA_true]
        refine ⟨_,_,_,rfl,fun ρ args w hE hr tys type cs hty => ?_⟩
        obtain ⟨u,x,ha,r1,r2⟩:=two ρ args hr
        obtain ⟨us,q1,q2⟩:=hsp ρ cx.1 n w x hE r2
        obtain ⟨pl,A,cap,_,hu,_,_,_,c4⟩:=VR_4 r1 h4
        refine fin ρ args w cx.1 _ h n tys type cs u x hty ha ⟨u,ρ,w,?_,r1,hE,Stp.refl _ _ _ _ _⟩
        rw [hu]
        exact q2.nothing hm type (some A) _ cap c4
       ·rw [nbF hm,bA_false] at hk ⊢
        obtain ⟨v',h',n',e1,hout⟩:=appB_ok (g:=g) hA hnl hm h4 hk
        rw [e1]
        refine ⟨_,_,_,rfl,fun ρ args w hE hr tys type cs hty => ?_⟩
        obtain ⟨u,x,ha,r1,r2⟩:=two ρ args hr
        obtain ⟨us,q1,q2⟩:=hsp ρ cx.1 n w x hE r2
        exact fin ρ args w cx.1 _ h' n' tys type cs u x hty ha (hout ρ w u x us hE r1 q1 q2 type)
      ·rw [e1] at hk ⊢
       obtain ⟨m,news,e1,hnl,hsp⟩:=hnw _ _ _ hk
       rw [e1] at hk ⊢
       have nilu:∀ (ρ:Rho) (u:Value),VR ρ (nth l 0) u → u = .slice none 0 0:=fun ρ u r => by
        have hu:=VR_6 r h6
        have h7:(nth l 0).2 = 1:=h7
        rw [h7] at hu
        exact hu
       by_cases hm:m = 0
       ·rw [nbT hm,bA_true]
        refine ⟨_,_,_,rfl,fun ρ args w hE hr tys type cs hty => ?_⟩
        obtain ⟨u,x,ha,r1,r2⟩:=two ρ args hr
        obtain ⟨us,q1,q2⟩:=hsp ρ cx.1 n w x hE r2
        refine fin ρ args w cx.1 _ h n tys type cs u x hty ha ⟨u,ρ,w,?_,r1,hE,Stp.refl _ _ _ _ _⟩
        rw [nilu ρ u r1]
        exact q2.nothing hm type none 0 0 (Nat.le_refl _)
       ·rw [nbF hm,bA_false] at hk ⊢
        obtain ⟨g1,g2,e1⟩:=rowK_ok hk
        rw [e1]
        refine ⟨_,_,_,rfl,fun ρ args w hE hr tys type cs hty => ?_⟩
        obtain ⟨u,x,ha,r1,r2⟩:=two ρ args hr
        obtain ⟨us,q1,q2⟩:=hsp ρ cx.1 n w x hE r2
        refine fin ρ args w cx.1 _ _ _ tys type cs u x hty ha ?_
        rw [nilu ρ u r1]
        exact ap_new hA hE g2 q1 q2 g1 type none 0 (by omega) (run_firstCells_none w.drew i.size 0 0 0)
theorem builtins_ok (hD:DepthOK P):BuiltinsOK P g:=fun sh b ts => by
 cases b with
 | len => exact eLen_ok
 | append => exact eAppend_ok
 | cap => exact eCap_ok
 | copy => exact eCopy_ok
 | min => exact eMin_ok
 | max => exact eMax_ok
 | unsafeSliceData => exact eSliceData_ok
 | unsafeString => exact eUString_ok hD
 | _ => exact badB_ok
end EV
end
noncomputable section
namespace EV
open Go
variable {P:Program} {g:Nat} {ns:List Tmp}
def MapsOK (P:Program) (g:Nat) (ihp:IH → Prop):Prop:=
 (∀ (ns:List Tmp) (o:Oper) (t:TypeId) (x k:Operand) (ok:Bool),o.op = .lookup t x k ok → OpOK P g (eLookup ns P t x k ok) o ihp) ∧
 (∀ (ns:List Tmp) (o:Oper) (t:TypeId) (m k v:Operand),o.op = .mapUpdate t m k v ∨ o.op = .insert t m k v → OpOK P g (eMapUpdate ns P t m k v) o ihp)
theorem ops_all {H:Nat → HE} (hD:DepthOK P) (hX:XOK P g H) (hF:FlatOK P) (hM:MapsOK P g (IHok P g)):OpsOK P g H:=fun ns o => by
 obtain ⟨hM1,hM2⟩:=hM
 cases ho:o.op with
 | move x => exact move_ok ho
 | assign x => exact assign_ok ho
 | pick c a b => exact pick_ok ho
 | load t a => exact load_ok ho
 | store t a v => exact store_ok ho
 | box t x => exact box_ok ho
 | alloc t => exact alloc_ok ho
 | build t ps => exact build_ok ho
 | buildSlice t l ps => exact buildSlice_ok ho
 | fieldAddr t x f => exact fieldAddr_ok ho
 | field t x f => exact field_ok ho
 | indexAddr t x i => exact indexAddr_ok ho
 | index t x i => exact index_ok ho
 | binOp op t x y t2 => exact bin_ok hF ho
 | unOp op t x => exact unOp_ok ho
 | convert s t x => exact conv_ok hD ho
 | range t x => exact range_ok ho
 | next x b => exact next_ok ho
 | lookup t x k ok => exact hM1 ns o t x k ok ho
 | mapUpdate t m k v => exact hM2 ns o t m k v (.inl ho)
 | insert t m k v => exact hM2 ns o t m k v (.inr ho)
 | nilCheck x => exact nilCheck_ok ho
 | extract x i => exact extract_ok ho
 | makeInterface t x => exact makeInterface_ok ho
 | makeFunc f a b => exact makeFunc_ok ho
 | makeMap t r => exact makeMap_ok ho
 | makeSlice t l c => exact makeSlice_ok ho
 | slice t x lo hi mx => exact slice_ok ho
 | call c => exact call_ok hX (builtins_ok hD) ho
 | _ => exact badO_ok
end EV
end
noncomputable section
namespace EV
open Go
variable {P:Program} {g:Nat}
def toLit:Value → Lit
 | .bool b => .bool b
 | .int k n => .int k n
 | .string s => .string s.data.toList
 | _ => .nil
def Typed (t:Nat) (u:Value):Prop:=(t = 2 ∧ ∃ b,u = .bool b) ∨ (t = 5 ∧ ∃ s,u = .string s ∧ s.size ≤ maxLen) ∨ ∃ k n,t = kc k ∧ u = .int k n ∧ (Lit.int k n).wf = true
def TypedL:List Nat → List Value → Prop
 | [],[] => True
 | t :: ts,u :: us => Typed t u ∧ TypedL ts us
 | _,_ => False
theorem TypedL.len:∀ {ts:List Nat} {us:List Value},TypedL ts us → ts.length = us.length
 | [],[],_ => rfl
 | _ :: ts,_ :: us,h => by simp [TypedL.len h.2]
 | [],_ :: _,h => h.elim
 | _ :: _,[],h => h.elim
theorem TypedL.one:∀ {q:Nat} {us:List Value},TypedL [q] us → ∃ u,us = [u] ∧ Typed q u
 | _,[u],h => ⟨u,rfl,h.1⟩
 | _,[],h => h.elim
 | _,_ :: _ :: _,h => h.2.elim
theorem TypedL.split:∀ {ts qs:List Nat} {us:List Value},TypedL (ts ++ qs) us → TypedL ts (us.take ts.length) ∧ TypedL qs (us.drop ts.length)
 | [],qs,us,h => by simpa [TypedL] using h
 | t :: ts,qs,u :: us,h => by
  obtain ⟨h1,h2⟩:=TypedL.split (ts:=ts) (qs:=qs) (us:=us) h.2
  exact ⟨⟨h.1,by simpa using h1⟩,by simpa using h2⟩
 | t :: ts,qs,[],h => h.elim
theorem leafFs_lits {D:Nat} {ih:TypeId → Option (List Nat)} (hih:∀ t ts,ih t = some ts → ∀ us,TypedL ts us → P.keyLits D t us = some (us.map toLit)):∀ {l:List Field} {acc:Nat} {q:List Nat},leafFs P ih l acc = some q → ∀ us:List Value,TypedL q (us.drop acc) →
  ∃ ch,l.mapM (fun f => P.keyLits D f.type ((us.drop f.offset).take (P.cellsOf f.type))) = some ch ∧ ch.flatten = (us.drop acc).map toLit
 | [],acc,q,h,us,ht => by
  have h:some [] = some q:=h
  cases h
  have:us.drop acc = []:=List.length_eq_zero_iff.1 ht.len.symm
  exact ⟨[],rfl,by rw [this];rfl⟩
 | f :: l,acc,q,h,us,ht => by
  have h:bK (Nat.beq f.offset acc) (oK none (ih f.type) fun t => bK (Nat.beq (EV.len t) (P.cellsOf f.type)) (oK none (leafFs P ih l (Nat.add acc (EV.len t))) fun q => some (appL t q)) none) none = some q:=h
  cases h1:Nat.beq f.offset acc with
  | false => rw [h1] at h;cases h
  | true =>
   rw [h1] at h
   obtain ⟨t,h2,h⟩:=oK_some (show oK none (ih f.type) (fun t => bK (Nat.beq (EV.len t) (P.cellsOf f.type)) (oK none (leafFs P ih l (Nat.add acc (EV.len t))) fun q => some (appL t q)) none) = some q from h)
   cases h3:Nat.beq (EV.len t) (P.cellsOf f.type) with
   | false => rw [h3] at h;cases h
   | true =>
    rw [h3] at h
    obtain ⟨r,h4,h⟩:=oK_some (show oK none (leafFs P ih l (Nat.add acc (EV.len t))) (fun q => some (appL t q)) = some q from h)
    cases h
    rw [appL_eq] at ht
    rw [len_eq] at h3 h4
    have h1:=Nat.eq_of_beq_eq_true h1
    have h3:=Nat.eq_of_beq_eq_true h3
    obtain ⟨s1,s2⟩:=ht.split
    rw [List.drop_drop] at s2
    obtain ⟨ch,c1,c2⟩:=leafFs_lits hih h4 us s2
    have hf:=hih f.type t h2 _ s1
    refine ⟨((us.drop acc).take t.length).map toLit :: ch,?_,?_⟩
    ·rw [List.mapM_cons,h1,← h3,hf,c1]
     rfl
    ·rw [List.flatten_cons,c2]
     change _ ++ (us.drop (acc + t.length)).map toLit = _
     rw [← List.drop_drop,← List.map_append,List.take_append_drop]
theorem leafN_lits {D n:Nat} {e:TypeId} {l:List Nat} (hih:∀ us,TypedL l us → P.keyLits D e us = some (us.map toLit)):∀ (a:Nat) (us:List Value),TypedL (repN l n) (us.drop (a * l.length)) →
  ∃ ch,(List.range' a n).mapM (fun i => P.keyLits D e ((us.drop (i * l.length)).take l.length)) = some ch ∧ ch.flatten = (us.drop (a * l.length)).map toLit:=by
 induction n with
 | zero =>
  intro a us ht
  have:us.drop (a * l.length) = []:=List.length_eq_zero_iff.1 ht.len.symm
  exact ⟨[],rfl,by rw [this];rfl⟩
 | succ n ih =>
  intro a us ht
  have ht:TypedL (appL l (repN l n)) (us.drop (a * l.length)):=ht
  rw [appL_eq] at ht
  obtain ⟨s1,s2⟩:=ht.split
  rw [List.drop_drop] at s2
  have e1:a * l.length + l.length = (a + 1) * l.length:=by rw [Nat.add_mul,Nat.one_mul]
  rw [e1] at s2
  obtain ⟨ch,c1,c2⟩:=ih (a + 1) us s2
  refine ⟨((us.drop (a * l.length)).take l.length).map toLit :: ch,?_,?_⟩
  ·rw [List.range'_succ,List.mapM_cons,hih _ s1,c1]
   rfl
  ·rw [List.flatten_cons,c2,← e1,← List.drop_drop,← List.map_append,List.take_append_drop]
theorem repN_len (l:List Nat):∀ n,(repN l n).length = n * l.length
 | 0 => by rw [Nat.zero_mul];rfl
 | n + 1 => by
  change (appL l (repN l n)).length = _
  rw [appL_eq,List.length_append,repN_len l n,Nat.add_mul,Nat.one_mul,Nat.add_comm]
theorem leaf_lits:∀ {D:Nat} {t:TypeId} {ts:List Nat},leafT P D t = some ts → ∀ us,TypedL ts us → P.keyLits D t us = some (us.map toLit)
 | 0,t,ts,h,us,_ => by cases h
 | D + 1,t,ts,h,us,ht => by
  have one:∀ {q:Nat},TypedL [q] us → ∃ u,us = [u] ∧ Typed q u:=fun h => h.one
  obtain ⟨d,hd,h⟩:=oK_some (show oK none (P.underlying t) _ = some ts from h)
  unfold Program.keyLits
  cases d with
  | int k =>
   cases h
   obtain ⟨u,rfl,hu⟩:=one ht
   rcases hu with ⟨c,_⟩ | ⟨c,_⟩ | ⟨k',n,h1,rfl,h2⟩
   ·exact absurd c (by have:=kc_ge k;omega)
   ·exact absurd c (by have:=kc_ge k;omega)
   ·have:=kc_inj h1
    subst this
    simp [hd,h2,toLit]
  | string =>
   cases h
   obtain ⟨u,rfl,hu⟩:=one ht
   rcases hu with ⟨c,_⟩ | ⟨_,s,hs,h2⟩ | ⟨k',n,h1,_⟩
   ·cases c
   ·rw [hs]
    generalize maxLen = M at *
    simp only [hd]
    rw [if_pos h2]
    rfl
   ·have:=kc_ge k';omega
  | bool =>
   cases h
   obtain ⟨u,rfl,hu⟩:=one ht
   rcases hu with ⟨_,b,rfl⟩ | ⟨c,_⟩ | ⟨k',n,h1,_⟩
   ·simp [hd,toLit]
   ·cases c
   ·have:=kc_ge k';omega
  | struct fs =>
   have h:bK (fs.all (·.name != "_")) (oK none (leafFs P (leafT P D) fs.toList (nat_lit 0)) fun l => bK (Nat.beq (EV.len l) (P.cellsOf t)) (some l) none) none = some ts:=h
   cases h1:fs.all (·.name != "_") with
   | false => rw [h1] at h;cases h
   | true =>
    rw [h1] at h
    obtain ⟨l,h2,h⟩:=oK_some (show oK none (leafFs P (leafT P D) fs.toList (nat_lit 0)) (fun l => bK (Nat.beq (EV.len l) (P.cellsOf t)) (some l) none) = some ts from h)
    obtain ⟨h3,h4⟩:=bK_some h
    subst h4
    rw [len_eq] at h3
    obtain ⟨ch,c1,c2⟩:=leafFs_lits (P:=P) (D:=D) (fun t ts h us ht => leaf_lits h us ht) h2 us (by simpa using ht)
    have hl:us.length = P.cellsOf t:=by rw [← ht.len];exact Nat.eq_of_beq_eq_true h3
    simp only [hd]
    rw [if_pos ⟨hl,h1⟩,c1,Option.map_some,c2]
    rfl
  | array n e =>
   obtain ⟨l,h1,h⟩:=oK_some (show oK none (leafT P D e) (fun l => bK (Nat.beq (EV.len l) (P.cellsOf e)) (bK (Nat.beq (Nat.mul n (EV.len l)) (P.cellsOf t)) (some (repN l n)) none) none) = some ts from h)
   obtain ⟨h2,h⟩:Nat.beq (EV.len l) (P.cellsOf e) = true ∧ bK (Nat.beq (Nat.mul n (EV.len l)) (P.cellsOf t)) (some (repN l n)) none = some ts:=by
    cases hc:Nat.beq (EV.len l) (P.cellsOf e) with
    | false => rw [hc] at h;cases h
    | true => rw [hc] at h;exact ⟨rfl,h⟩
   obtain ⟨h3,h4⟩:=bK_some h
   subst h4
   rw [len_eq] at h2 h3
   have h2:=Nat.eq_of_beq_eq_true h2
   have h3:n * l.length = P.cellsOf t:=Nat.eq_of_beq_eq_true h3
   obtain ⟨ch,c1,c2⟩:=leafN_lits (P:=P) (D:=D) (n:=n) (e:=e) (l:=l) (fun us ht => leaf_lits h1 us ht) 0 us (by simpa using ht)
   have hrl:=repN_len l n
   have hl:us.length = P.cellsOf t:=by rw [← ht.len,hrl,h3]
   simp only [hd]
   rw [if_pos hl,List.range_eq_range',← h2,c1,Option.map_some,c2]
   simp
  | _ => cases h
end EV
end
noncomputable section
namespace EV
open Go
variable {P:Program} {g:Nat}
theorem kc_ne2 (k:IntKind):kc k ≠ 2 ∧ kc k ≠ 5:=by have:=kc_ge k;omega
theorem minmax (k:IntKind):k.min = (hf k:Int) - (md k:Int) ∧ k.max = (hf k:Int) - 1:=by cases k <;> exact ⟨rfl,rfl⟩
theorem wf_int {k:IntKind} {m:Nat} (h:m < md k):(Lit.int k (toI k m)).wf = true:=by
 obtain ⟨h1,h2⟩:=minmax k
 have h3:=hf_le k
 change (decide (k.min ≤ toI k m) && decide (toI k m ≤ k.max)) = true
 rw [h1,h2]
 unfold toI
 split <;> simp <;> omega
theorem okCell_typed {ρ:Rho} {t:Nat} {x:AV} {u:Value} (h:okCell t x = true) (hv:VR ρ x u) (ht:t = 2 ∨ t = 5 ∨ ∃ k,t = kc k):x.1 = t ∧ Typed t u:=by
 unfold okCell at h
 by_cases h1:x.1 = t
 ·rw [nbT h1] at h
  refine ⟨h1,?_⟩
  rcases ht with e | e | ⟨k,e⟩
  ·subst e
   exact .inl ⟨rfl,_,VR_2 hv h1⟩
  ·subst e
   obtain ⟨s,hs,s1,_⟩:=VR_5 hv h1
   have h:Nat.ble x.2 9223372036854775807 = true:=h
   have h:=Nat.le_of_ble_eq_true h
   refine .inr (.inl ⟨rfl,s,hs,?_⟩)
   have hm:maxLen = 9223372036854775807:=by unfold maxLen;decide
   rw [hm,s1]
   exact h
  ·subst e
   obtain ⟨h2,h3⟩:=VR_i hv h1
   exact .inr (.inr ⟨k,_,rfl,h3,wf_int h2⟩)
 ·rw [nbF h1] at h
  cases h
def Plain (t:Nat):Prop:=t = 2 ∨ t = 5 ∨ ∃ k,t = kc k
theorem leafFs_plain {ih:TypeId → Option (List Nat)} (hih:∀ t ts,ih t = some ts → ∀ x ∈ ts,Plain x):∀ {l:List Field} {acc:Nat} {q:List Nat},leafFs P ih l acc = some q → ∀ x ∈ q,Plain x
 | [],acc,q,h => by
  have h:some [] = some q:=h
  cases h
  simp
 | f :: l,acc,q,h => by
  have h:bK (Nat.beq f.offset acc) (oK none (ih f.type) fun t => bK (Nat.beq (EV.len t) (P.cellsOf f.type)) (oK none (leafFs P ih l (Nat.add acc (EV.len t))) fun q => some (appL t q)) none) none = some q:=h
  cases h1:Nat.beq f.offset acc with
  | false => rw [h1] at h;cases h
  | true =>
   rw [h1] at h
   obtain ⟨t,h2,h⟩:=oK_some (show oK none (ih f.type) (fun t => bK (Nat.beq (EV.len t) (P.cellsOf f.type)) (oK none (leafFs P ih l (Nat.add acc (EV.len t))) fun q => some (appL t q)) none) = some q from h)
   cases h3:Nat.beq (EV.len t) (P.cellsOf f.type) with
   | false => rw [h3] at h;cases h
   | true =>
    rw [h3] at h
    obtain ⟨r,h4,h⟩:=oK_some (show oK none (leafFs P ih l (Nat.add acc (EV.len t))) (fun q => some (appL t q)) = some q from h)
    cases h
    rw [appL_eq]
    intro x hx
    rcases List.mem_append.1 hx with c | c
    ·exact hih _ _ h2 x c
    ·exact leafFs_plain hih h4 x c
theorem leaf_plain:∀ {D:Nat} {t:TypeId} {ts:List Nat},leafT P D t = some ts → ∀ x ∈ ts,Plain x
 | 0,t,ts,h => by cases h
 | D + 1,t,ts,h => by
  obtain ⟨d,hd,h⟩:=oK_some (show oK none (P.underlying t) _ = some ts from h)
  cases d with
  | int k => cases h;intro x hx;simp at hx;exact .inr (.inr ⟨k,hx⟩)
  | string => cases h;intro x hx;simp at hx;exact .inr (.inl hx)
  | bool => cases h;intro x hx;simp at hx;exact .inl hx
  | struct fs =>
   have h:bK (fs.all (·.name != "_")) (oK none (leafFs P (leafT P D) fs.toList (nat_lit 0)) fun l => bK (Nat.beq (EV.len l) (P.cellsOf t)) (some l) none) none = some ts:=h
   cases h1:fs.all (·.name != "_") with
   | false => rw [h1] at h;cases h
   | true =>
    rw [h1] at h
    obtain ⟨l,h2,h⟩:=oK_some (show oK none (leafFs P (leafT P D) fs.toList (nat_lit 0)) (fun l => bK (Nat.beq (EV.len l) (P.cellsOf t)) (some l) none) = some ts from h)
    obtain ⟨h3,h4⟩:=bK_some h
    subst h4
    exact leafFs_plain (fun t ts h => leaf_plain h) h2
  | array n e =>
   obtain ⟨l,h1,h⟩:=oK_some (show oK none (leafT P D e) (fun l => bK (Nat.beq (EV.len l) (P.cellsOf e)) (bK (Nat.beq (Nat.mul n (EV.len l)) (P.cellsOf t)) (some (repN l n)) none) none) = some ts from h)
   have h:bK (Nat.beq (Nat.mul n (EV.len l)) (P.cellsOf t)) (some (repN l n)) none = some ts:=by
    cases hc:Nat.beq (EV.len l) (P.cellsOf e) with
    | false => rw [hc] at h;cases h
    | true => rw [hc] at h;exact h
   obtain ⟨_,h4⟩:=bK_some h
   subst h4
   intro x hx
   have:∀ m,x ∈ repN l m → x ∈ l:=fun m => by
    induction m with
    | zero => intro c;cases c
    | succ m ih =>
     intro c
     have c:x ∈ appL l (repN l m):=c
     rw [appL_eq] at c
     rcases List.mem_append.1 c with c | c
     ·exact c
     ·exact ih c
   exact leaf_plain h1 x (this n hx)
  | _ => cases h
theorem tagsB_cons {t:Nat} {ts:List Nat} {x:AV} {l:List AV}:tagsB (t :: ts) (x :: l) = bK (okCell t x) (tagsB ts l) false:=rfl
theorem tags_typed {ρ:Rho}:∀ {ts:List Nat} {l:List AV} {us:List Value},tagsB ts l = true → VRs ρ l us → (∀ x ∈ ts,Plain x) → TypedL ts us
 | [],[],[],_,_,_ => trivial
 | t :: ts,x :: l,u :: us,h,hv,hp => by
  rw [tagsB_cons] at h
  cases hc:okCell t x with
  | false => rw [hc] at h;cases h
  | true =>
   rw [hc] at h
   exact ⟨(okCell_typed hc hv.1 (hp t (by simp))).2,tags_typed (ts:=ts) h hv.2 fun y hy => hp y (by simp [hy])⟩
 | [],_ :: _,_,h,_,_ => by cases h
 | _ :: _,[],_,h,_,_ => by cases h
 | [],[],_ :: _,_,hv,_ => hv.elim
 | _ :: _,_ :: _,[],_,hv,_ => hv.elim
theorem cell_eq {ρ:Rho} {t:Nat} {x y:AV} {u v:Value} (hx:okCell t x = true) (hy:okCell t y = true) (hu:VR ρ x u) (hv:VR ρ y v) (hp:Plain t):eq1 x y = true ↔ toLit u = toLit v:=by
 obtain ⟨x1,_⟩:=okCell_typed hx hu hp
 obtain ⟨y1,_⟩:=okCell_typed hy hv hp
 unfold eq1
 rw [nbT (x1.trans y1.symm)]
 rcases hp with e | e | ⟨k,e⟩
 ·subst e
  unfold okCell at hx hy
  rw [nbT x1] at hx
  rw [nbT y1] at hy
  have hx:=Nat.le_of_ble_eq_true (show Nat.ble x.2 1 = true from hx)
  have hy:=Nat.le_of_ble_eq_true (show Nat.ble y.2 1 = true from hy)
  rw [VR_2 hu x1,VR_2 hv y1]
  have hx':x.2 = 0 ∨ x.2 = 1:=by omega
  have hy':y.2 = 0 ∨ y.2 = 1:=by omega
  have h5:Nat.beq x.1 5 = false:=by rw [x1];rfl
  rcases hx' with a | a <;> rcases hy' with b | b <;> rw [a,b] <;> simp [bK,toLit,h5] <;> decide
 ·subst e
  obtain ⟨s,rfl,s1,s2⟩:=VR_5 hu x1
  obtain ⟨r,rfl,r1,r2⟩:=VR_5 hv y1
  have hq:(bytes s = bytes r) ↔ toLit (.string s) = toLit (.string r):=by
   change (bytes s = bytes r) ↔ Lit.string s.data.toList = Lit.string r.data.toList
   constructor
   ·intro h;rw [bytes_inj h]
   ·intro h
    have:s.data.toList = r.data.toList:=by simpa using h
    unfold bytes
    rw [this]
  rw [← hq]
  have h5:Nat.beq x.1 5 = true:=nbT x1
  by_cases a:x.2 = y.2
  ·rw [nbT a]
   have h5:Nat.beq x.1 5 = true:=nbT x1
   simp only [bK,h5]
   constructor
   ·intro h
    have h:=Nat.eq_of_beq_eq_true h
    exact pk_inj (by rw [bytes_len,bytes_len,s1,r1,a]) (bytes_lt s) (bytes_lt r) (by rw [← pk_eq,← pk_eq,s2,r2,h])
   ·intro h
    refine nbT ?_
    rw [← s2,← r2,h]
  ·rw [nbF a]
   simp only [bK,Bool.false_eq_true,false_iff]
   intro h
   exact a (by rw [← s1,← r1,← bytes_len,← bytes_len,h])
 ·subst e
  obtain ⟨a1,rfl⟩:=VR_i hu x1
  obtain ⟨b1,rfl⟩:=VR_i hv y1
  have h5:Nat.beq x.1 5 = false:=by rw [x1];exact nbF (kc_ne2 k).2
  have hj:toI k x.2 = toI k y.2 ↔ x.2 = y.2:=⟨fun h => by rw [← ofI_toI a1,← ofI_toI b1,h],fun h => by rw [h]⟩
  by_cases a:x.2 = y.2
  ·rw [nbT a]
   simp only [bK,h5,toLit,a]
  ·rw [nbF a]
   simp only [bK,Bool.false_eq_true,false_iff,toLit,Lit.int.injEq,true_and]
   exact fun h => a (hj.1 h)
end EV
end
noncomputable section
namespace EV
open Go
variable {P:Program} {g:Nat}
theorem eqs_cons {x y:AV} {l m:List AV}:eqs (x :: l) (y :: m) = bK (eq1 x y) (eqs l m) false:=rfl
theorem eqs_lits {ρ:Rho}:∀ {ts:List Nat} {l m:List AV} {us vs:List Value},tagsB ts l = true → tagsB ts m = true → VRs ρ l us → VRs ρ m vs → (∀ x ∈ ts,Plain x) → (eqs l m = true ↔ us.map toLit = vs.map toLit)
 | [],[],[],[],[],_,_,_,_,_ => ⟨fun _ => rfl,fun _ => rfl⟩
 | t :: ts,x :: l,y :: m,u :: us,v :: vs,h,h',hv,hv',hp => by
  rw [tagsB_cons] at h h'
  cases hc:okCell t x with
  | false => rw [hc] at h;cases h
  | true =>
   cases hc':okCell t y with
   | false => rw [hc'] at h';cases h'
   | true =>
    rw [hc] at h
    rw [hc'] at h'
    have ih:=eqs_lits (ts:=ts) h h' hv.2 hv'.2 fun y hy => hp y (by simp [hy])
    have h1:=cell_eq hc hc' hv.1 hv'.1 (hp t (by simp))
    rw [eqs_cons,List.map_cons,List.map_cons,List.cons.injEq,← h1,← ih]
    cases eq1 x y <;> simp [bK]
 | [],_ :: _,_,_,_,h,_,_,_,_ => by cases h
 | [],[],_ :: _,_,_,_,h,_,_,_ => by cases h
 | _ :: _,[],_,_,_,h,_,_,_,_ => by cases h
 | _ :: _,_ :: _,[],_,_,_,h,_,_,_ => by cases h
 | [],[],[],_ :: _,_,_,_,hv,_,_ => hv.elim
 | [],[],[],[],_ :: _,_,_,_,hv,_ => hv.elim
 | _ :: _,_ :: _,_ :: _,[],_,_,_,hv,_,_ => hv.elim
 | _ :: _,_ :: _,_ :: _,_ :: _,[],_,_,_,hv,_ => hv.elim
theorem flatT_spec {t:TypeId} {ts:List Nat} (h:flatT P t = some ts):P.keyTypeAt 20 t = true ∧ leafT P 20 t = some ts:=by
 have h:bK (P.keyTypeAt 20 t) (leafT P 20 t) none = some ts:=h
 cases hk:P.keyTypeAt 20 t with
 | false => rw [hk] at h;cases h
 | true => rw [hk] at h;exact ⟨rfl,h⟩
theorem flatS_spec {t:TypeId} {ts:List Nat} (h:flatS P t = some ts):P.eqGuardType P.depth t = false ∧ P.keyTypeAt 20 t = true ∧ leafT P 20 t = some ts:=by
 have h:bK (P.eqGuardType P.depth t) none (flatT P t) = some ts:=h
 cases hk:P.eqGuardType P.depth t with
 | true => rw [hk] at h;cases h
 | false => rw [hk] at h;exact ⟨rfl,flatT_spec h⟩
theorem leaf_size {D:Nat} {t:TypeId} {ts:List Nat} {fs:Array Field} (h:leafT P (D + 1) t = some ts) (hd:P.underlying t = some (.struct fs)):ts.length = P.cellsOf t:=by
 obtain ⟨d,hd',h⟩:=oK_some (show oK none (P.underlying t) _ = some ts from h)
 rw [hd] at hd'
 cases hd'
 have h:bK (fs.all (·.name != "_")) (oK none (leafFs P (leafT P D) fs.toList (nat_lit 0)) fun l => bK (Nat.beq (EV.len l) (P.cellsOf t)) (some l) none) none = some ts:=h
 cases h1:fs.all (·.name != "_") with
 | false => rw [h1] at h;cases h
 | true =>
  rw [h1] at h
  obtain ⟨l,h2,h⟩:=oK_some (show oK none (leafFs P (leafT P D) fs.toList (nat_lit 0)) (fun l => bK (Nat.beq (EV.len l) (P.cellsOf t)) (some l) none) = some ts from h)
  obtain ⟨h3,h4⟩:=bK_some h
  subst h4
  rw [len_eq] at h3
  exact Nat.eq_of_beq_eq_true h3
theorem flat_ok:FlatOK P:=fun op t fs ts hd hf => by
 obtain ⟨f1,f2,f3⟩:=flatS_spec hf
 intro v1 v2 K hk
 have hk:(isT (nat_lit 7) v1 (isT (nat_lit 7) v2 (bA (tagsB ts v1.4.4) (bA (tagsB ts v2.4.4) (eqOut op (eqs v1.4.4 v2.4.4) K) (.fail 28)) (.fail 28)))).ok:=hk
 change ∃ v,isT (nat_lit 7) v1 (isT (nat_lit 7) v2 (bA (tagsB ts v1.4.4) (bA (tagsB ts v2.4.4) (eqOut op (eqs v1.4.4 v2.4.4) K) (.fail 28)) (.fail 28))) = K v ∧ _
 obtain ⟨h1,e⟩:=isT_ok hk
 rw [e] at hk ⊢
 obtain ⟨h2,e⟩:=isT_ok hk
 rw [e] at hk ⊢
 obtain ⟨h3,e⟩:=bA_ok hk
 rw [e] at hk ⊢
 obtain ⟨h4,e⟩:=bA_ok hk
 rw [e] at hk ⊢
 obtain ⟨b,e,hb⟩:=eqOut_ok hk
 refine ⟨_,e,fun ρ u1 u2 x y w r1 r2 => ?_⟩
 obtain ⟨c1,rfl,s1,_⟩:=VR_7 r1 h1
 obtain ⟨c2,rfl,s2,_⟩:=VR_7 r2 h2
 have hpl:=leaf_plain f3
 have t1:=tags_typed h3 s1 hpl
 have t2:=tags_typed h4 s2 hpl
 have hsz:=leaf_size f3 hd
 have k1:=leaf_lits f3 _ t1
 have k2:=leaf_lits f3 _ t2
 have z1:c1.size = P.cellsOf t:=by rw [← hsz,t1.len];simp
 have z2:c2.size = P.cellsOf t:=by rw [← hsz,t2.len];simp
 have g1:(Value.agg c1).formed P t = true:=by simp [Value.formed,hd,z1]
 have g2:(Value.agg c2).formed P t = true:=by simp [Value.formed,hd,z2]
 obtain ⟨r,hr,hiff⟩:=run_equalIn_deep (P:=P) 9980 20 t f2 w 20 20 (.agg c1) (.agg c2) _ _ g1 g2 k1 k2
 have hreq:r = eqs v1.4.4 v2.4.4:=by
  have:=eqs_lits h3 h4 s1 s2 hpl
  cases r with
  | true => exact (this.2 (hiff.1 rfl)).symm
  | false =>
   cases hq:eqs v1.4.4 v2.4.4 with
   | false => rfl
   | true => have:=hiff.2 (this.1 hq);cases this
 have heq:(Op.equal t (.agg c1) (.agg c2)).run P w = .ok (eqs v1.4.4 v2.4.4) w:=by rw [← hreq];exact hr
 refine ⟨.bool b,?_,run_eq hb heq (by simp) (by simp) (by simp) (by simp),VR_bool b⟩
 rcases hb with ⟨rfl,_⟩ | ⟨rfl,_⟩ <;> simp [eqGuard,f1]
end EV
end
noncomputable section
namespace EV
open Go
variable {P:Program} {g:Nat}
theorem depth_ok:DepthOK P:=by
 unfold DepthOK Program.depth
 omega
theorem leaf_sizeA {D:Nat} {t:TypeId} {ts:List Nat} {n:Nat} {e:TypeId} (h:leafT P (D + 1) t = some ts) (hd:P.underlying t = some (.array n e)):ts.length = P.cellsOf t:=by
 obtain ⟨d,hd',h⟩:=oK_some (show oK none (P.underlying t) _ = some ts from h)
 rw [hd] at hd'
 cases hd'
 obtain ⟨l,h1,h⟩:=oK_some (show oK none (leafT P D e) (fun l => bK (Nat.beq (EV.len l) (P.cellsOf e)) (bK (Nat.beq (Nat.mul n (EV.len l)) (P.cellsOf t)) (some (repN l n)) none) none) = some ts from h)
 have h:bK (Nat.beq (Nat.mul n (EV.len l)) (P.cellsOf t)) (some (repN l n)) none = some ts:=by
  cases hc:Nat.beq (EV.len l) (P.cellsOf e) with
  | false => rw [hc] at h;cases h
  | true => rw [hc] at h;exact h
 obtain ⟨h3,h4⟩:=bK_some h
 subst h4
 rw [len_eq] at h3
 rw [repN_len]
 exact Nat.eq_of_beq_eq_true h3
theorem keyF_spec {t:TypeId} {q:KeF} (h:keyF P t = some q):aggT P t = some q.1 ∧ P.keyTypeAt 20 t = true ∧ leafT P 20 t = some q.2:=by
 obtain ⟨ag,h1,h⟩:=oK_some (show oK none (aggT P t) (fun ag => oK none (flatT P t) fun ts => some (KeF.mk ag ts)) = some q from h)
 obtain ⟨ts,h2,h⟩:=oK_some h
 cases h
 exact ⟨h1,flatT_spec h2⟩
def kCells (q:KeF) (v:AV):List AV:=bK q.1 v.4.4 [v]
theorem okKey_cells {q:KeF} {v:AV} (h:okKey q v = true):tagsB q.2 (kCells q v) = true ∧ (q.1 = true → v.1 = 7):=by
 obtain ⟨a,ts⟩:=q
 cases a with
 | true =>
  have h:bK (Nat.beq v.1 7) (tagsB ts v.4.4) false = true:=h
  cases h7:Nat.beq v.1 7 with
  | false => rw [h7] at h;cases h
  | true => rw [h7] at h;exact ⟨h,fun _ => Nat.eq_of_beq_eq_true h7⟩
 | false => exact ⟨h,fun c => by cases c⟩
theorem eqKey_cells (q:KeF) (v v':AV):eqKey q v v' = eqs (kCells q v) (kCells q v'):=by
 obtain ⟨a,ts⟩:=q
 cases a <;> rfl
theorem key_lits {ρ:Rho} {t:TypeId} {q:KeF} (hq:keyF P t = some q) {v:AV} {u:Value} (hk:okKey q v = true) (hv:VR ρ v u) :
  VRs ρ (kCells q v) u.cells.toList ∧ u.formed P t = true ∧ P.keyLits 20 t u.cells.toList = some (u.cells.toList.map toLit):=by
 obtain ⟨h1,h2,h3⟩:=keyF_spec hq
 obtain ⟨h4,h5⟩:=okKey_cells hk
 obtain ⟨d,hd,hag⟩:=aggT_und h1
 have hpl:=leaf_plain h3
 cases hb:q.1 with
 | true =>
  rw [hb] at hag h5
  obtain ⟨cs,rfl,hs,_⟩:=VR_7 hv (h5 rfl)
  have hcl:kCells q v = v.4.4:=by unfold kCells;rw [hb];rfl
  rw [hcl] at h4 ⊢
  have ht:=tags_typed h4 hs hpl
  refine ⟨hs,?_,leaf_lits h3 _ ht⟩
  have hl:=ht.len
  cases d with
  | struct fs =>
   have:=leaf_size h3 hd
   have hz:cs.size = P.cellsOf t:=by rw [← this,hl];simp
   simp [Value.formed,hd,hz]
  | array n e =>
   have:=leaf_sizeA h3 hd
   have hz:cs.size = P.cellsOf t:=by rw [← this,hl];simp
   simp [Value.formed,hd,hz]
  | _ => cases hag
 | false =>
  rw [hb] at hag
  have hcl:kCells q v = [v]:=by unfold kCells;rw [hb];rfl
  rw [hcl] at h4 ⊢
  have ht1:TypedL q.2 [u]:=tags_typed h4 (show VRs ρ [v] [u] from ⟨hv,trivial⟩) hpl
  obtain ⟨x,hx⟩:∃ x,q.2 = [x]:=by
   have:=ht1.len
   match hq2:q.2,this with
   | [x],_ => exact ⟨x,rfl⟩
  rw [hx] at ht1
  have hu:u.cells = #[u] ∧ u.formed P t = true:=by
   have nf:∀ w:Value,(∀ cs,w ≠ .agg cs) → (∀ cs,w ≠ .tuple cs) → w.formed P t = true:=fun w n1 n2 => by
    cases w <;> first | exact absurd rfl (n1 _) | exact absurd rfl (n2 _) | (cases d <;> first | (cases hag;done) | simp [Value.formed,hd])
   rcases ht1.1 with ⟨_,b,rfl⟩ | ⟨_,s,rfl,_⟩ | ⟨k,n,_,rfl,_⟩
   ·exact ⟨rfl,nf _ (by simp) (by simp)⟩
   ·exact ⟨rfl,nf _ (by simp) (by simp)⟩
   ·exact ⟨rfl,nf _ (by simp) (by simp)⟩
  rw [hu.1]
  exact ⟨⟨hv,trivial⟩,hu.2,leaf_lits h3 _ (by rw [hx];exact ht1)⟩
theorem key_eq {ρ:Rho} {t:TypeId} {q:KeF} (hq:keyF P t = some q) {v v':AV} {u u':Value} (hk:okKey q v = true) (hk':okKey q v' = true) (hv:VR ρ v u) (hv':VR ρ v' u') (w:World) :
  (Op.equal t u u').run P w = .ok (eqKey q v v') w ∧ (eqKey q v v' = true ↔ u.cells.toList.map toLit = u'.cells.toList.map toLit):=by
 obtain ⟨_,h2,h3⟩:=keyF_spec hq
 have hpl:=leaf_plain h3
 obtain ⟨s1,f1,k1⟩:=key_lits hq hk hv
 obtain ⟨s2,f2,k2⟩:=key_lits hq hk' hv'
 have hiff:=eqs_lits (okKey_cells hk).1 (okKey_cells hk').1 s1 s2 hpl
 rw [eqKey_cells]
 obtain ⟨r,hr,hiff2⟩:=run_equalIn_deep (P:=P) 9980 20 t h2 w 20 20 u u' _ _ f1 f2 k1 k2
 have:r = eqs (kCells q v) (kCells q v'):=by
  cases r with
  | true => exact (hiff.2 (hiff2.1 rfl)).symm
  | false =>
   cases hq':eqs (kCells q v) (kCells q v') with
   | false => rfl
   | true => have:=hiff2.2 (hiff.1 hq');cases this
 exact ⟨by rw [← this];exact hr,hiff⟩
theorem key_check {ρ:Rho} {t:TypeId} {q:KeF} (hq:keyF P t = some q) {v:AV} {u:Value} (hk:okKey q v = true) (hv:VR ρ v u) (em:Bool) (w:World):(Instr.checkKey em 10000 t u).run P w = .ok () w:=by
 obtain ⟨_,h2,_⟩:=keyF_spec hq
 obtain ⟨_,f1,k1⟩:=key_lits hq hk hv
 exact run_checkKey_deep em 9980 20 t h2 w 20 u _ f1 k1
end EV
end
noncomputable section
namespace EV
open Go
variable {P:Program} {g:Nat}
theorem same_equal {t:TypeId} {d:TypeDesc} (hd:P.underlying t = some d) {a b:Value} {r:Bool} (h:Instr.sameNow d a b = some r) (w:World):(Op.equal t a b).run P w = .ok r w:=by
 rw [equal_step]
 generalize 9999 = D
 unfold Instr.sameNow at h
 split at h
 ·rename_i k x k' y
  by_cases hk:k = k'
  ·rw [if_pos hk] at h
   cases h
   simp [Op.equalIn,run_underlying' hd,hk]
  ·rw [if_neg hk] at h
   cases h
 ·cases h;simp [Op.equalIn,run_underlying' hd]
 ·cases h;simp [Op.equalIn,run_underlying' hd]
 ·cases h
theorem now_asking {t:TypeId} {d:TypeDesc} (hd:P.underlying t = some d) {k:Value} (w:World):∀ {es:List MapEntry} {i:Nat} {r:Option (Nat × Value)},Instr.findNow d k es i = some r → (Instr.findAsking t k es i).run P w = .ok r w
 | [],i,r,h => by
  have h:some none = some r:=h
  cases h
  simp [Instr.findAsking]
 | e :: es,i,r,h => by
  unfold Instr.findNow at h
  cases hs:Instr.sameNow d k e.key with
  | none => rw [hs] at h;cases h
  | some b =>
   rw [hs] at h
   have he:=same_equal hd hs w
   cases b with
   | true =>
    have h:some (some (i,e.val)) = some r:=h
    cases h
    simp [Instr.findAsking,he]
   | false =>
    have h:Instr.findNow d k es (i + 1) = some r:=h
    simp [Instr.findAsking,he,now_asking hd w h]
theorem run_findKey' {t:TypeId} {d:TypeDesc} (hd:P.underlying t = some d) {k:Value} {w:World} {es:List MapEntry} {r:Option (Nat × Value)} (h:(Instr.findAsking t k es 0).run P w = .ok r w):(Instr.findKey t k es).run P w = .ok r w:=by
 unfold Instr.findKey
 simp only [Sem.run_bind,run_underlying' hd,Result.andThen_ok]
 cases hn:Instr.findNow d k es 0 with
 | none => exact h
 | some r' =>
  have:=now_asking hd w hn
  rw [h] at this
  cases this
  rfl
theorem find_ok {q:KeF} {k z:AV} {t f:AV → Ans}:∀ {l:List (AV × AV)},(findE q k l z t f).ok →
  (∃ v,findE q k l z t f = t v ∧ ∀ (ρ:Rho) (kt:TypeId) (u:Value) (es:List MapEntry) (w:World) (i:Nat),keyF P kt = some q → okKey q k = true → VR ρ k u → MR ρ l es → ∃ j y,(Instr.findAsking kt u es i).run P w = .ok (some (j,y)) w ∧ VR ρ v y) ∨
  (findE q k l z t f = f z ∧ ∀ (ρ:Rho) (kt:TypeId) (u:Value) (es:List MapEntry) (w:World) (i:Nat),keyF P kt = some q → okKey q k = true → VR ρ k u → MR ρ l es → (Instr.findAsking kt u es i).run P w = .ok none w)
 | [],_ => .inr ⟨rfl,fun ρ kt u es w i _ _ _ hm => by
  match es,hm with
  | [],_ => simp [Instr.findAsking]⟩
 | e :: l,hk => by
  have hk:(bA (okKey q e.1) (bA (eqKey q k e.1) (t e.2) (findE q k l z t f)) (.fail 98)).ok:=hk
  have form:findE q k (e :: l) z t f = bA (okKey q e.1) (bA (eqKey q k e.1) (t e.2) (findE q k l z t f)) (.fail 98):=rfl
  rw [form]
  obtain ⟨h1,e1⟩:=bA_ok hk
  rw [e1] at hk ⊢
  cases hq:eqKey q k e.1 with
  | true =>
   rw [bA_true]
   refine .inl ⟨e.2,rfl,fun ρ kt u es w i hkt hok hu hm => ?_⟩
   match es,hm with
   | x :: es,hm =>
    have:=(key_eq hkt hok h1 hu hm.1 w).1
    rw [hq] at this
    exact ⟨i,x.val,by simp [Instr.findAsking,this],hm.2.1⟩
  | false =>
   rw [hq,bA_false] at hk
   rw [bA_false]
   have step:∀ (ρ:Rho) (kt:TypeId) (u:Value) (x:MapEntry) (es:List MapEntry) (w:World) (i:Nat),keyF P kt = some q → okKey q k = true → VR ρ k u → VR ρ e.1 x.key → (Instr.findAsking kt u (x :: es) i).run P w = (Instr.findAsking kt u es (i + 1)).run P w:=fun ρ kt u x es w i hkt hok hu hx => by
    have:=(key_eq hkt hok h1 hu hx w).1
    rw [hq] at this
    simp [Instr.findAsking,this]
   rcases find_ok (l:=l) hk with ⟨v,e2,hv⟩ | ⟨e2,hv⟩
   ·refine .inl ⟨v,e2,fun ρ kt u es w i hkt hok hu hm => ?_⟩
    match es,hm with
    | x :: es,hm => rw [step ρ kt u x es w i hkt hok hu hm.1];exact hv ρ kt u es w (i + 1) hkt hok hu hm.2.2
   ·refine .inr ⟨e2,fun ρ kt u es w i hkt hok hu hm => ?_⟩
    match es,hm with
    | x :: es,hm => rw [step ρ kt u x es w i hkt hok hu hm.1];exact hv ρ kt u es w (i + 1) hkt hok hu hm.2.2
end EV
end
noncomputable section
namespace EV
open Go
variable {P:Program} {g:Nat} {ns:List Tmp}
theorem zeroV_spec {t:TypeId} {z:AV} (h:zeroV P t = some z) (w:World):∃ zv,(zeroValue t).run P w = .ok zv w ∧ ∀ ρ:Rho,VR ρ z zv:=by
 obtain ⟨i,h1,h⟩:=oK_some (show oK none (P.info? t) (fun i => oK none i.zero constAV) = some z from h)
 obtain ⟨zv,h2,h3⟩:=oK_some h
 exact ⟨zv,by simp [zeroValue,typeInfo,h1,h2],fun ρ => constAV_rel h3⟩
theorem mapD_eq {d:TypeDesc} {ke:TypeId × TypeId} (h:mapD d = some ke):d = .map ke.1 ke.2:=by
 cases d <;> first | (cases h;rfl) | cases h
theorem look_ok {q:KeF} {x k z:AV} {h:Heap} {t f:AV → Ans} (hk:(bA (okKey q k) (bA (Nat.beq x.1 (nat_lit 6)) (bA (Nat.beq x.2 (nat_lit 2)) (f z) (.fail 82)) (isT (nat_lit 9) x
   (bA (Nat.beq ((heapF x.2).1 h).1 (nat_lit 3)) (findE q k ((heapF x.2).1 h).5 z t f) (.fail 82)))) (.fail 82)).ok) :
  (∃ v,(bA (okKey q k) (bA (Nat.beq x.1 (nat_lit 6)) (bA (Nat.beq x.2 (nat_lit 2)) (f z) (.fail 82)) (isT (nat_lit 9) x
   (bA (Nat.beq ((heapF x.2).1 h).1 (nat_lit 3)) (findE q k ((heapF x.2).1 h).5 z t f) (.fail 82)))) (.fail 82)) = t v ∧
   ∀ (ρ:Rho) (lk n:Nat) (w:World) (mt kt et:TypeId) (ux uk:Value) (ok:Bool),Emb g lk ρ h n w → P.underlying mt = some (.map kt et) → keyF P kt = some q → VR ρ x ux → VR ρ k uk →
    ∃ y,(Instr.lookup mt ux uk ok).run P w = .ok (if ok then .tuple #[y,.bool true] else y) w ∧ VR ρ v y) ∨
  ((bA (okKey q k) (bA (Nat.beq x.1 (nat_lit 6)) (bA (Nat.beq x.2 (nat_lit 2)) (f z) (.fail 82)) (isT (nat_lit 9) x
   (bA (Nat.beq ((heapF x.2).1 h).1 (nat_lit 3)) (findE q k ((heapF x.2).1 h).5 z t f) (.fail 82)))) (.fail 82)) = f z ∧
   ∀ (ρ:Rho) (lk n:Nat) (w:World) (mt kt et:TypeId) (ux uk:Value) (ok:Bool),Emb g lk ρ h n w → P.underlying mt = some (.map kt et) → keyF P kt = some q → zeroV P et = some z → VR ρ x ux → VR ρ k uk →
    ∃ y,(Instr.lookup mt ux uk ok).run P w = .ok (if ok then .tuple #[y,.bool false] else y) w ∧ VR ρ z y):=by
 obtain ⟨h1,e⟩:=bA_ok hk
 rw [e] at hk ⊢
 have und:∀ kt,keyF P kt = some q → ∃ d,P.underlying kt = some d:=fun kt hq => by
  obtain ⟨d,hd,_⟩:=aggT_und (keyF_spec hq).1
  exact ⟨d,hd⟩
 by_cases h6:x.1 = 6
 ·rw [nbT h6,bA_true] at hk ⊢
  obtain ⟨h2,e⟩:=bA_ok hk
  rw [e]
  refine .inr ⟨rfl,fun ρ lk n w mt kt et ux uk ok hE hm hq hz hx hu => ?_⟩
  have hux:=VR_6 hx h6
  have h2:x.2 = 2:=Nat.eq_of_beq_eq_true h2
  rw [h2] at hux
  obtain ⟨zv,hzv,hzr⟩:=zeroV_spec hz w
  obtain ⟨d,hd⟩:=und kt hq
  have hf:(Instr.findKey kt uk []).run P w = .ok none w:=run_findKey' hd (by simp [Instr.findAsking])
  have hc:=fun em => key_check hq h1 hu em w
  refine ⟨zv,?_,hzr ρ⟩
  subst hux
  simp [Instr.lookup,run_underlying' hm,nilOf,hc,hf,hzv]
 ·rw [nbF h6,bA_false,heapF_get] at hk ⊢
  obtain ⟨h9,e⟩:=isT_ok hk
  rw [e] at hk ⊢
  obtain ⟨h3,e⟩:=bA_ok hk
  rw [e] at hk ⊢
  have h3:(hget h x.2).1 = 3:=Nat.eq_of_beq_eq_true h3
  rcases find_ok (P:=P) hk with ⟨v,e,hv⟩ | ⟨e,hv⟩
  ·rw [e]
   refine .inl ⟨v,rfl,fun ρ lk n w mt kt et ux uk ok hE hm hq hx hu => ?_⟩
   obtain ⟨pl,hp,rfl⟩:=VR_9 hx h9
   obtain ⟨es,cl,hw,hmr⟩:=map_of hE hp h3
   obtain ⟨d,hd⟩:=und kt hq
   obtain ⟨j,y,hf,hy⟩:=hv ρ kt uk es.toList w 0 hq h1 hu hmr
   have hf:=run_findKey' hd hf
   have hc:=fun em => key_check hq h1 hu em w
   have hg:(getObj pl.B).run P w = .ok (.map es cl) w:=by simp [getObj,Sem.run,hw]
   refine ⟨y,?_,hy⟩
   simp [Instr.lookup,run_underlying' hm,hg,hc,hf]
  ·rw [e]
   refine .inr ⟨rfl,fun ρ lk n w mt kt et ux uk ok hE hm hq hz hx hu => ?_⟩
   obtain ⟨pl,hp,rfl⟩:=VR_9 hx h9
   obtain ⟨es,cl,hw,hmr⟩:=map_of hE hp h3
   obtain ⟨d,hd⟩:=und kt hq
   have hf:=run_findKey' hd (hv ρ kt uk es.toList w 0 hq h1 hu hmr)
   have hc:=fun em => key_check hq h1 hu em w
   have hg:(getObj pl.B).run P w = .ok (.map es cl) w:=by simp [getObj,Sem.run,hw]
   obtain ⟨zv,hzv,hzr⟩:=zeroV_spec hz w
   refine ⟨zv,?_,hzr ρ⟩
   simp [Instr.lookup,run_underlying' hm,hg,hc,hf,hzv]
theorem lookup_pu {o:Oper} {t:TypeId} {x k:Operand} {ok:Bool} (ho:o.op = .lookup t x k ok):PuOK P g (eLookup ns P t x k ok) o:=
 oO_pu fun d hd => oO_pu fun ke hke => oO_pu fun q hq => oO_pu fun z hz => by
  have hd':=mapD_eq hke
  subst hd'
  refine bO_pu (fun hb => ?_) fun hb => ?_
  ·subst hb
   refine fun cx S h n K hk => ?_
   rcases look_ok (P:=P) (g:=g) (q:=q) (x:=(opd ns x).1 S) (k:=(opd ns k).1 S) (z:=z) (h:=h) (t:=fun v => K (mTup [v,tT]) h n) (f:=fun v => K (mTup [v,tF]) h n) hk with ⟨v,e,hv⟩ | ⟨e,hv⟩
   ·refine ⟨_,e,fun ρ a w hE hR => ?_⟩
    obtain ⟨y,h1,h2⟩:=hv ρ cx.1 n w t ke.1 ke.2 (a.eval x) (a.eval k) true hE hd hq (hR x (by simp [ho,Op.operands])) (hR k (by simp [ho,Op.operands]))
    exact ⟨_,by simp only [execOp,ho,h1,Sem.run_bind,Result.andThen_ok,Sem.run_pure];rfl,VR_mTup (cs:=#[y,.bool true]) ⟨h2,VR_tT,trivial⟩⟩
   ·refine ⟨_,e,fun ρ a w hE hR => ?_⟩
    obtain ⟨y,h1,h2⟩:=hv ρ cx.1 n w t ke.1 ke.2 (a.eval x) (a.eval k) true hE hd hq hz (hR x (by simp [ho,Op.operands])) (hR k (by simp [ho,Op.operands]))
    exact ⟨_,by simp only [execOp,ho,h1,Sem.run_bind,Result.andThen_ok,Sem.run_pure];rfl,VR_mTup (cs:=#[y,.bool false]) ⟨h2,VR_tF,trivial⟩⟩
  ·subst hb
   refine fun cx S h n K hk => ?_
   rcases look_ok (P:=P) (g:=g) (q:=q) (x:=(opd ns x).1 S) (k:=(opd ns k).1 S) (z:=z) (h:=h) (t:=fun v => K v h n) (f:=fun v => K v h n) hk with ⟨v,e,hv⟩ | ⟨e,hv⟩
   ·refine ⟨_,e,fun ρ a w hE hR => ?_⟩
    obtain ⟨y,h1,h2⟩:=hv ρ cx.1 n w t ke.1 ke.2 (a.eval x) (a.eval k) false hE hd hq (hR x (by simp [ho,Op.operands])) (hR k (by simp [ho,Op.operands]))
    exact ⟨_,by simp only [execOp,ho,h1,Sem.run_bind,Result.andThen_ok,Sem.run_pure];rfl,h2⟩
   ·refine ⟨_,e,fun ρ a w hE hR => ?_⟩
    obtain ⟨y,h1,h2⟩:=hv ρ cx.1 n w t ke.1 ke.2 (a.eval x) (a.eval k) false hE hd hq hz (hR x (by simp [ho,Op.operands])) (hR k (by simp [ho,Op.operands]))
    exact ⟨_,by simp only [execOp,ho,h1,Sem.run_bind,Result.andThen_ok,Sem.run_pure];rfl,h2⟩
theorem lookup_ok {o:Oper} {ih:IH → Prop} {t:TypeId} {x k:Operand} {ok:Bool} (ho:o.op = .lookup t x k ok):OpOK P g (eLookup ns P t x k ok) o ih:=.pure (lookup_pu ho)
end EV
end
noncomputable section
namespace EV
open Go
variable {P:Program} {g:Nat} {ns:List Tmp}
theorem same_bits {t:Nat} {u v:Value} (hu:Typed t u) (hv:Typed t v) (h:toLit u = toLit v) (n:Nat):Instr.sameBits n u v = true:=by
 rcases hu with ⟨_,b,rfl⟩ | ⟨_,s,rfl,_⟩ | ⟨k,m,_,rfl,_⟩
 ·rcases hv with ⟨_,b',rfl⟩ | ⟨_,s',rfl,_⟩ | ⟨k',m',_,rfl,_⟩
  ·have:b = b':=by simpa [toLit] using h
   cases n <;> simp [Instr.sameBits,this]
  ·cases h
  ·cases h
 ·rcases hv with ⟨_,b',rfl⟩ | ⟨_,s',rfl,_⟩ | ⟨k',m',_,rfl,_⟩
  ·cases h
  ·have:s.data.toList = s'.data.toList:=by
    have h:Lit.string s.data.toList = Lit.string s'.data.toList:=h
    simpa using h
   have e:s = s':=by
    obtain ⟨⟨x⟩⟩:=s
    obtain ⟨⟨y⟩⟩:=s'
    have:x = y:=this
    rw [this]
   subst e
   have hb:(s == s) = true:=(Go.MapKept.bytes_beq s s).2 rfl
   cases n <;> simp [Instr.sameBits,hb]
  ·cases h
 ·rcases hv with ⟨_,b',rfl⟩ | ⟨_,s',rfl,_⟩ | ⟨k',m',_,rfl,_⟩
  ·cases h
  ·cases h
  ·have:k = k' ∧ m = m':=by simpa [toLit] using h
   obtain ⟨rfl,rfl⟩:=this
   cases n <;> simp [Instr.sameBits]
theorem same_list {n:Nat}:∀ {ts:List Nat} {us vs:List Value},TypedL ts us → TypedL ts vs → us.map toLit = vs.map toLit → ((us.zip vs).all fun x => Instr.sameBits n x.1 x.2) = true
 | [],[],[],_,_,_ => rfl
 | t :: ts,u :: us,v :: vs,hu,hv,h => by
  simp only [List.map_cons,List.cons.injEq] at h
  simp only [List.zip_cons_cons,List.all_cons,Bool.and_eq_true]
  exact ⟨same_bits hu.1 hv.1 h.1 n,same_list hu.2 hv.2 h.2⟩
 | [],_ :: _,_,h,_,_ => h.elim
 | [],[],_ :: _,_,h,_ => h.elim
 | _ :: _,[],_,h,_,_ => h.elim
 | _ :: _,_ :: _,[],_,h,_ => h.elim
theorem put_ok {q:KeF} {k v:AV}:∀ {l:List (AV × AV)} {K:List (AV × AV) → Ans},(putE q k v l K).ok → ∃ l',putE q k v l K = K l' ∧
  ∀ (ρ:Rho) (kt:TypeId) (uk uv:Value) (es:List MapEntry) (w:World) (i:Nat),keyF P kt = some q → okKey q k = true → VR ρ k uk → VR ρ v uv → MR ρ l es →
   ((Instr.findAsking kt uk es i).run P w = .ok none w ∧ ∀ b,MR ρ l' (es ++ [{ key:=uk,val:=uv,born:=b }])) ∨
   (∃ j e,(Instr.findAsking kt uk es i).run P w = .ok (some (i + j,e.val)) w ∧ es[j]? = some e ∧ (∃ a,okKey q a = true ∧ VR ρ a e.key ∧ eqKey q k a = true) ∧
    ∀ f:MapEntry → MapEntry,(∀ e,(f e).key = uk ∧ (f e).val = uv) → MR ρ l' (es.modify j f))
 | [],K,_ => ⟨[(k,v)],rfl,fun ρ kt uk uv es w i _ _ hk hv hm => by
  match es,hm with
  | [],_ => exact .inl ⟨by simp [Instr.findAsking],fun b => ⟨hk,hv,trivial⟩⟩⟩
 | e :: l,K,hk => by
  have form:putE q k v (e :: l) K = bA (okKey q e.1) (bA (eqKey q k e.1) (K ((k,v) :: l)) (putE q k v l fun r => K (e :: r))) (.fail 98):=rfl
  rw [form] at hk ⊢
  obtain ⟨h1,e1⟩:=bA_ok hk
  rw [e1] at hk ⊢
  cases hq:eqKey q k e.1 with
  | true =>
   rw [bA_true]
   refine ⟨_,rfl,fun ρ kt uk uv es w i hkt hok hu hv hm => ?_⟩
   match es,hm with
   | x :: es,hm =>
    have:=(key_eq hkt hok h1 hu hm.1 w).1
    rw [hq] at this
    exact .inr ⟨0,x,by simp [Instr.findAsking,this],rfl,⟨e.1,h1,hm.1,hq⟩,fun f hf => ⟨by rw [(hf x).1];exact hu,by rw [(hf x).2];exact hv,hm.2.2⟩⟩
  | false =>
   rw [hq,bA_false] at hk
   rw [bA_false]
   obtain ⟨l',e2,hl⟩:=put_ok (l:=l) hk
   refine ⟨e :: l',e2,fun ρ kt uk uv es w i hkt hok hu hv hm => ?_⟩
   match es,hm with
   | x :: es,hm =>
    have:=(key_eq hkt hok h1 hu hm.1 w).1
    rw [hq] at this
    have step:(Instr.findAsking kt uk (x :: es) i).run P w = (Instr.findAsking kt uk es (i + 1)).run P w:=by simp [Instr.findAsking,this]
    rw [step]
    rcases hl ρ kt uk uv es w (i + 1) hkt hok hu hv hm.2.2 with ⟨a1,a2⟩ | ⟨j,y,a1,a2,a3,a4⟩
    ·exact .inl ⟨a1,fun b => ⟨hm.1,hm.2.1,a2 b⟩⟩
    ·exact .inr ⟨j + 1,y,by rw [a1];congr 3;omega,by simpa using a2,a3,fun f hf => ⟨hm.1,hm.2.1,a4 f hf⟩⟩
end EV
end
noncomputable section
namespace EV
open Go
variable {P:Program} {g:Nat} {ns:List Tmp}
theorem key_same {ρ:Rho} {t:TypeId} {q:KeF} (hq:keyF P t = some q) {v v':AV} {u u':Value} (hk:okKey q v = true) (hk':okKey q v' = true) (hv:VR ρ v u) (hv':VR ρ v' u') (he:eqKey q v v' = true):Instr.sameBits 10000 u' u = true:=by
 obtain ⟨_,_,h3⟩:=keyF_spec hq
 have hpl:=leaf_plain h3
 obtain ⟨h4,h5⟩:=okKey_cells hk
 obtain ⟨h4',h5'⟩:=okKey_cells hk'
 rw [eqKey_cells] at he
 cases hb:q.1 with
 | true =>
  obtain ⟨c1,rfl,s1,_⟩:=VR_7 hv (h5 hb)
  obtain ⟨c2,rfl,s2,_⟩:=VR_7 hv' (h5' hb)
  have e1:kCells q v = v.4.4:=by unfold kCells;rw [hb];rfl
  have e2:kCells q v' = v'.4.4:=by unfold kCells;rw [hb];rfl
  rw [e1] at h4 he
  rw [e2] at h4' he
  have t1:=tags_typed h4 s1 hpl
  have t2:=tags_typed h4' s2 hpl
  have hl:=(eqs_lits h4 h4' s1 s2 hpl).1 he
  have hsz:c2.size = c1.size:=by
   have a:=t1.len
   have b:=t2.len
   simp at a b
   omega
  have step:∀ n,Instr.sameBits (n + 1) (.agg c2) (.agg c1) = true:=fun n => by
   have:=same_list (n:=n) t2 t1 hl.symm
   simp only [Instr.sameBits,hsz,beq_self_eq_true,Bool.true_and]
   exact this
  exact step 9999
 | false =>
  have e1:kCells q v = [v]:=by unfold kCells;rw [hb];rfl
  have e2:kCells q v' = [v']:=by unfold kCells;rw [hb];rfl
  rw [e1] at h4 he
  rw [e2] at h4' he
  have s1:VRs ρ [v] [u]:=⟨hv,trivial⟩
  have s2:VRs ρ [v'] [u']:=⟨hv',trivial⟩
  have t1:=tags_typed h4 s1 hpl
  have t2:=tags_typed h4' s2 hpl
  have hl:=(eqs_lits h4 h4' s1 s2 hpl).1 he
  generalize q.2 = ts at t1 t2
  obtain ⟨x,rfl⟩:=List.length_eq_one_iff.1 t1.len
  obtain ⟨y1,e1,w1⟩:=t1.one
  obtain ⟨y2,e2,w2⟩:=t2.one
  have e1:u = y1:=(List.cons.inj e1).1
  have e2:u' = y2:=(List.cons.inj e2).1
  subst e1
  subst e2
  have hl:[toLit u] = [toLit u']:=hl
  exact same_bits w2 w1 (List.cons.inj hl).1.symm 10000
theorem mapUpdate_ok {o:Oper} {ih:IH → Prop} {t:TypeId} {x k v:Operand} (ho:o.op = .mapUpdate t x k v ∨ o.op = .insert t x k v):OpOK P g (eMapUpdate ns P t x k v) o ih:=
 oO_ok fun d hd => oO_ok fun ke hke => oO_ok fun q hq => by
  have hd':=mapD_eq hke
  subst hd'
  intro cx S h n K _ hk
  have hk:(bA (okKey q ((opd ns k).1 S)) (isT (nat_lit 9) ((opd ns x).1 S) (bA (Nat.ble cx.1 ((opd ns x).1 S).2) (bA (Nat.beq ((heapF ((opd ns x).1 S).2).1 h).1 (nat_lit 3))
   (putE q ((opd ns k).1 S) ((opd ns v).1 S) ((heapF ((opd ns x).1 S).2).1 h).5 fun es => (heapF ((opd ns x).1 S).2).2 ⟨(nat_lit 3),(nat_lit 0),(nat_lit 0),cells0,es,(nat_lit 0)⟩ h fun h => K (mTup []) h n) (.fail 83)) (.fail 83))) (.fail 83)).ok:=hk
  change ∃ v' h' n',(bA (okKey q ((opd ns k).1 S)) (isT (nat_lit 9) ((opd ns x).1 S) (bA (Nat.ble cx.1 ((opd ns x).1 S).2) (bA (Nat.beq ((heapF ((opd ns x).1 S).2).1 h).1 (nat_lit 3))
   (putE q ((opd ns k).1 S) ((opd ns v).1 S) ((heapF ((opd ns x).1 S).2).1 h).5 fun es => (heapF ((opd ns x).1 S).2).2 ⟨(nat_lit 3),(nat_lit 0),(nat_lit 0),cells0,es,(nat_lit 0)⟩ h fun h => K (mTup []) h n) (.fail 83)) (.fail 83))) (.fail 83)) = K v' h' n' ∧ _
  rw [heapF_get] at hk ⊢
  obtain ⟨h1,e⟩:=bA_ok hk
  rw [e] at hk ⊢
  obtain ⟨h9,e⟩:=isT_ok hk
  rw [e] at hk ⊢
  obtain ⟨hlk,e⟩:=bA_ok hk
  rw [e] at hk ⊢
  obtain ⟨h3,e⟩:=bA_ok hk
  rw [e] at hk ⊢
  obtain ⟨l',e,hl⟩:=put_ok (P:=P) hk
  rw [e,heapF_put]
  have h3:(hget h ((opd ns x).1 S).2).1 = 3:=Nat.eq_of_beq_eq_true h3
  refine ⟨_,_,_,rfl,fun ρ a w hE hR next Q hn => ?_⟩
  have mem:∀ y,y = x ∨ y = k ∨ y = v → y ∈ o.op.operands:=fun y hy => by
   rcases ho with e | e <;> rw [e] <;> rcases hy with rfl | rfl | rfl <;> simp [Op.operands]
  have hx:=hR x (mem x (.inl rfl))
  have hu:=hR k (mem k (.inr (.inl rfl)))
  have hv:=hR v (mem v (.inr (.inr rfl)))
  obtain ⟨pl,hp,hux⟩:=VR_9 hx h9
  obtain ⟨es,cl,hw,hmr⟩:=map_of hE hp h3
  have hlive:(hget h ((opd ns x).1 S).2).1 ≠ 0:=by rw [h3];decide
  obtain ⟨q0,q1,_,q2,_⟩:=hE.ob _ (hE.bd _ _ hp).1 hlive
  rw [hp] at q1
  cases q1
  have hpo:=(q2 h3).1
  obtain ⟨dk,hdk,_⟩:=aggT_und (keyF_spec hq).1
  have hc:=key_check hq h1 hu false w
  have hg:(getObj pl.B).run P w = .ok (.map es cl) w:=by simp [getObj,Sem.run,hw]
  have hB:pl.B < w.heap.size:=(hE.bd _ _ hp).2
  have fin:∀ es' cl',MR ρ l' es'.toList → (Instr.mapUpdate t (a.eval x) (a.eval k) (a.eval v)).run P w = .ok () { w with heap:=w.heap.setIfInBounds pl.B (.map es' cl') } → o.wp P a w next Q:=fun es' cl' hm hrun => by
   refine wp_skip' (w':={ w with heap:=w.heap.setIfInBounds pl.B (.map es' cl') }) ?_ (hn _ ρ _ (VR_mTup (l:=[]) (cs:=#[]) trivial) (hE.write hp (Nat.le_of_ble_eq_true hlk) hlive (by rw [h3];decide) (by exact fun c => by cases c) (fun _ => ⟨fun c => (by cases c),fun _ => ⟨hpo,es',cl',?_,hm⟩,fun c => (by cases c)⟩) (by simp) (fun j hj => by simp [Ne.symm hj]))
    (Stp.write hE hp (Nat.le_of_ble_eq_true hlk) hlive rfl rfl rfl (by simp) (fun j hj => by simp [Ne.symm hj])))
   ·rcases ho with e | e <;> simp only [execOp,e,hrun,Sem.run_bind,Result.andThen_ok,Sem.run_pure]
   ·simp [hB]
  have hso:∀ ob,(setObj pl.B ob).run P w = .ok () { w with heap:=w.heap.setIfInBounds pl.B ob }:=fun ob => MapKept.run_setObj_map ob hw
  rcases hl ρ ke.1 (a.eval k) (a.eval v) es.toList w 0 hq h1 hu hv hmr with ⟨a1,a2⟩ | ⟨j,y,a1,a2,⟨z,z1,z2,z3⟩,a4⟩
  ·have hf:=run_findKey' hdk a1
   refine fin (es.push { key:=a.eval k,val:=a.eval v,born:=cl }) (cl + 1) (by simpa using a2 cl) ?_
   rw [hux]
   simp [Instr.mapUpdate,run_underlying' hd,hg,hc,hf,hso]
  ·have hf:=run_findKey' hdk a1
   rw [Nat.zero_add] at hf
   have a2':es[j]? = some y:=by simpa using a2
   have hsame:Instr.sameBits 10000 y.key (a.eval k) = true:=key_same hq h1 z1 hu z2 z3
   refine fin (es.modify j fun e => { e with key:=a.eval k,val:=a.eval v }) cl (by simpa [Array.toList_modify] using a4 (fun e => { e with key:=a.eval k,val:=a.eval v }) fun _ => ⟨rfl,rfl⟩) ?_
   rw [hux]
   simp [Instr.mapUpdate,run_underlying' hd,hg,hc,hf,hso,a2',Instr.keyThatStays,hsame]
theorem maps_ok {ih:IH → Prop}:MapsOK P g ih:=⟨fun ns o t x k ok ho => lookup_ok ho,fun ns o t m k v ho => mapUpdate_ok ho⟩
theorem ops_sound {H:Nat → HE} (hX:XOK P g H):OpsOK P g H:=ops_all depth_ok hX flat_ok maps_ok
end EV
end
noncomputable section
namespace EV
open Go
variable {P:Program} {g:Nat}
theorem call_pu {H:Nat → HE} {o:Oper} {c:Call} (ho:o.op = .call c) {b:Builtin} (hc:c.callee = .builtin b) (hB:∀ sh ts,BuPu P g b ts (builtinF sh P b ts)):PuOK P g (eCall [] P H c) o:=by
 unfold eCall
 rw [hc]
 intro cx S h n K hk
 have hk:((builtinF (Nat.blt (nat_lit 3) (H (keyB c.args.toList)).1) P b c.argTypes.toList).1 cx (evOs [] c.args.toList S) h n K).ok:=hk
 obtain ⟨v,e,hv⟩:=hB (Nat.blt (nat_lit 3) (H (keyB c.args.toList)).1) c.argTypes.toList cx _ h n K hk
 refine ⟨v,e,fun ρ a w hE hR => ?_⟩
 obtain ⟨u,h1,h2⟩:=hv ρ (c.args.map a.eval) w hE (args_rel (ho ▸ hR)) c.argTypes o.type (c.args.map fun | .const _ => true | _ => false) rfl
 refine ⟨u,?_,h2⟩
 simp only [execOp,ho,resolve,hc,Sem.run_bind,Sem.run_pure,Result.andThen_ok,invoke]
 exact h1
theorem reads_ok {H:Nat → HE}:ReadsOK P g H:=fun o hk => by
 cases ho:o.op with
 | move x => exact move_pu ho
 | assign x => exact assign_pu ho
 | pick c a b => exact pick_pu ho
 | load t a => exact load_pu ho
 | fieldAddr t x f => exact fieldAddr_pu ho
 | field t x f => exact field_pu ho
 | indexAddr t x i => exact indexAddr_pu ho
 | index t x i => exact index_pu ho
 | binOp op t x y t2 => exact bin_pu flat_ok ho
 | unOp op t x => exact unOp_pu ho
 | nilCheck x => exact nilCheck_pu ho
 | extract x i => exact extract_pu ho
 | makeInterface t x => exact makeInterface_pu ho
 | makeFunc f a b => exact makeFunc_pu ho
 | slice t x lo hi mx => exact slice_pu ho
 | build t ps => exact build_pu ho
 | lookup t x k ok => exact lookup_pu ho
 | call c =>
  rw [ho] at hk
  have hk:kindC c.callee = 0:=hk
  cases hc:c.callee with
  | builtin b =>
   rw [hc] at hk
   have hk:kindB b = 0:=hk
   cases b with
   | len => exact call_pu ho hc fun _ _ => eLen_pu
   | cap => exact call_pu ho hc fun _ _ => eCap_pu
   | min => exact call_pu ho hc fun _ _ => eMin_pu
   | max => exact call_pu ho hc fun _ _ => eMax_pu
   | unsafeSliceData => exact call_pu ho hc fun _ _ => eSliceData_pu
   | _ => cases hk
  | _ => rw [hc] at hk;cases hk
 | _ => rw [ho] at hk;cases hk
theorem allocs_ok {H:Nat → HE}:AllocsOK P H:=fun o hk => by
 cases ho:o.op with
 | alloc t => exact alloc_al ho
 | box t x => exact box_al ho
 | buildSlice t l ps => exact buildSlice_al ho
 | makeSlice t l c => exact makeSlice_al ho
 | makeMap t r => exact makeMap_al ho
 | call c =>
  rw [ho] at hk
  have hk:kindC c.callee = 1:=hk
  unfold kindC at hk
  split at hk
  ·rename_i b _
   cases b <;> cases hk
  ·cases hk
 | _ => rw [ho] at hk;cases hk
theorem draw_all {H:Nat → HE} (hm:P.follows .mixedOrders = true):DrawOK P H:=⟨hm,reads_ok,allocs_ok⟩
end EV
end
noncomputable section
namespace EV
open Go
variable {P:Program}
def bOp (d:Option Tmp) (op:Op) (t:TypeId) (pos:String) (after:Array Edge):Oper:={ dst:=d,op:=op,type:=t,pos:=pos,after:=after,guard:=none }
def bR0 (ts ti:TypeId):Array Oper:=
 #[bOp (some 4) (.load ts (.tmp 1)) ts "iter.go:28" #[],
  bOp (some 5) (.call { callee:=.builtin .len,args:=#[.tmp 4],argTypes:=#[ts] }) ti "iter.go:28" #[{ on:=0,ground:=.data }],
  bOp (some 6) (.binOp .sub ti (.tmp 5) (.const (.int .i64 1)) ti) ti "iter.go:28" #[{ on:=1,ground:=.data }],
  bOp (some 3) (.assign (.tmp 6)) ti "iter.go:28" #[{ on:=2,ground:=.data },{ on:=0,ground:=.phase },{ on:=1,ground:=.phase },{ on:=2,ground:=.phase }]]
def bR1 (ti tb:TypeId):Array Oper:=
 #[bOp (some 7) (.move (.tmp 3)) ti "iter.go:28" #[],
  bOp (some 8) (.binOp .geq ti (.tmp 7) (.const (.int .i64 0)) ti) tb "iter.go:28" #[{ on:=0,ground:=.data }]]
def bR3 (ts te ti tb ty:TypeId):Array Oper:=
 #[bOp (some 11) (.move (.tmp 0)) ty "iter.go:29" #[],
  bOp (some 12) (.move (.tmp 3)) ti "iter.go:29" #[],
  bOp (some 13) (.load ts (.tmp 1)) ts "iter.go:29" #[],
  bOp (some 14) (.move (.tmp 3)) ti "iter.go:29" #[],
  bOp (some 15) (.indexAddr ts (.tmp 13) (.tmp 14)) 0 "iter.go:29" #[{ on:=2,ground:=.data },{ on:=3,ground:=.data }],
  bOp (some 16) (.load te (.tmp 15)) te "iter.go:29" #[{ on:=4,ground:=.data }],
  bOp (some 17) (.call { callee:=.value (.tmp 11),args:=#[.tmp 12,.tmp 16],argTypes:=#[ti,te] }) tb "iter.go:29" #[{ on:=0,ground:=.data },{ on:=1,ground:=.data },{ on:=5,ground:=.data }],
  bOp (some 18) (.unOp .not tb (.tmp 17)) tb "iter.go:29" #[{ on:=6,ground:=.data }]]
def bR2 (ti:TypeId):Array Oper:=
 #[bOp (some 9) (.move (.tmp 3)) ti "iter.go:28" #[],
  bOp (some 10) (.binOp .sub ti (.tmp 9) (.const (.int .i64 1)) ti) ti "iter.go:28" #[{ on:=0,ground:=.data }],
  bOp (some 3) (.assign (.tmp 10)) ti "iter.go:28" #[{ on:=1,ground:=.data },{ on:=0,ground:=.phase },{ on:=1,ground:=.phase }]]
def bLoop (ts te ti tb ty:TypeId):Code:=
 ((Code.region 1 (bR1 ti tb) false).seq (.cond (.tmp 8) .skip (.exit 0))).seq
  ((Code.block 1 ((Code.region 3 (bR3 ts te ti tb ty) false).seq (.cond (.tmp 18) .ret .skip))).seq (.region 2 (bR2 ti) false))
def backBody (ts te ti tb ty:TypeId):Code:=(Code.region 0 (bR0 ts ti) false).seq (.block 0 (.loop (bLoop ts te ti tb ty)))
def BkOK (P:Program) (bk:Nat → Option (P2 Nat Bool)):Prop:=
 ∀ f q,bk f = some q → ∃ fn ts te ti tb ty,P.funcs[f]? = some fn ∧ fn.body = some (backBody ts te ti tb ty) ∧ fn.ntmps = 19 ∧ fn.results = #[] ∧ plainName fn.name = true ∧
  P.underlying ts = some (.slice te) ∧ szOf P te = some q.1 ∧ aggT P te = some q.2
theorem put_get {a:Act} {t s:Tmp} {u:Value} (h:t < a.tmps.size):(a.put (some t) u).tmps.getD s undef = if s = t then u else a.tmps.getD s undef:=by
 by_cases e:s = t
 ·subst e;rw [put_at h,if_pos rfl]
 ·rw [getD_put a t s u e,if_neg e]
theorem eval_tmp (a:Act) (t:Tmp):a.eval (.tmp t) = a.tmps.getD t undef:=rfl
theorem stepV {ro:Option Nat} {ops:Array Oper} {rest:List Oper} {o:Oper} {a:Act} {w w':World} {v:Value} {Q:Exit → Act → World → Prop} (hg:o.guard = none) (hd:∀ c,o.op ≠ .defer c)
  (hrun:(execOp a.eval o).run P w = .ok (.value v) w') (h:wpListIn (FR ro) 0 P ops Q rest (a.put o.dst v) w'):wpListIn (FR ro) 0 P ops Q (o :: rest) a w:=by
 refine wpListIn_plain hg fun K hK => ⟨fun _ _ => trivial,?_⟩
 rw [Oper.semAt_eq _ _ _ hd,hrun]
 exact hK _ _ h
theorem run_sub1 {t:TypeId} {m:Int} (h0:0 ≤ m) (h1:m < 9223372036854775808) (w:World):(binOp .sub t (.int .i64 m) (.int .i64 1)).run P w = .ok (.int .i64 (m - 1)) w:=by
 rw [run_intk w (by decide) (by decide)]
 have:IntKind.i64.wrap (m - 1) = m - 1:=by
  unfold IntKind.wrap
  simp only [IntKind.bits,IntKind.signed]
  by_cases h:m = 0
  ·subst h;decide
  ·have e:(m - 1) % (2 ^ 64:Int) = m - 1:=Int.emod_eq_of_lt (by omega) (by omega)
   simp only [e]
   rw [if_neg]
   simp only [Bool.true_and,decide_eq_true_eq]
   omega
 simp [Op.intArith,this]
theorem run_geq0 {t:TypeId} {m:Int} (w:World):(binOp .geq t (.int .i64 m) (.int .i64 0)).run P w = .ok (.bool (decide (0 ≤ m))) w:=by
 rw [run_intk w (by decide) (by decide)]
 simp [Op.intCmp]
end EV
end
noncomputable section
namespace EV
open Go
variable {P:Program} {g:Nat}
def Ap (B:Nat) (ρ:Rho) (h:Heap) (n:Nat):Prop:=∀ b pl,b < n → (hget h b).1 ≠ 0 → ρ b = some pl → pl.B ≠ B
theorem Ap.step {lk:Nat} {ρ ρ':Rho} {h h':Heap} {n n':Nat} {w w':World} (hE:Emb g lk ρ h n w) (s:Stp lk ρ h n w ρ' h' n' w') {B:Nat} {o:Obj} (ha:Ap B ρ h n) (hw:w.heap[B]? = some o):w'.heap[B]? = some o ∧ Ap B ρ' h' n':=by
 have hB:B < w.heap.size:=(Array.getElem?_eq_some_iff.1 hw).1
 refine ⟨?_,fun b pl h1 h2 h3 he => ?_⟩
 ·rw [s.unt B hB fun b pl _ h2 h3 h4 => ha b pl h2 h3 h4];exact hw
 ·by_cases hb:b < lk
  ·rw [s.lck b hb] at h2
   have hbn:b < n:=Nat.lt_of_lt_of_le hb hE.kn
   obtain ⟨pl0,hp0,_⟩:=hE.ob b hbn h2
   have h5:=s.ext b pl0 hp0
   rw [h3] at h5
   cases h5
   exact ha b pl hbn h2 hp0 he
  ·obtain ⟨b0,pl0,g1,g2,g3,g4,g5⟩:=s.own b pl (by omega) h1 h2 h3 (by omega)
   exact ha b0 pl0 g2 g3 g4 (g5.trans he)
theorem rndK_fin {x:Ans} {T0:Tmps} {k:Heap → Nat → Ans} {e:Ex} {T':Tmps} {h':Heap} {n':Nat} (hk:rndK x T0 k = .fin e T' h' n') :
  (∃ T1 h1 n1,x = .fin .normal T1 h1 n1 ∧ k h1 n1 = .fin e T' h' n') ∨ (∃ T1,x = .fin e T1 h' n' ∧ e ≠ .normal ∧ T' = T0):=by
 cases x with
 | fail w => cases hk
 | fin e1 T1 h1 n1 =>
  cases e1 with
  | normal => exact .inl ⟨T1,h1,n1,rfl,hk⟩
  | exit i =>
   have hk:Ans.fin (.exit i) T0 h1 n1 = .fin e T' h' n':=hk
   cases hk
   exact .inr ⟨T1,rfl,(fun c => by cases c),rfl⟩
  | ret =>
   have hk:Ans.fin .ret T0 h1 n1 = .fin e T' h' n':=hk
   cases hk
   exact .inr ⟨T1,rfl,(fun c => by cases c),rfl⟩
theorem asgK_fin {x:Ans} {k:Tmps → Heap → Nat → Ans} {e:Ex} {T':Tmps} {h':Heap} {n':Nat} (hk:asgK x k = .fin e T' h' n'):∃ T1 h1 n1,x = .fin .normal T1 h1 n1 ∧ k T1 h1 n1 = .fin e T' h' n':=by
 cases x with
 | fail w => cases hk
 | fin e1 T1 h1 n1 =>
  cases e1 with
  | normal => exact ⟨T1,h1,n1,rfl,hk⟩
  | exit i => cases hk
  | ret => cases hk
def jmp:Ex → Option Code
 | .normal => none
 | .exit i => some (.exit i)
 | .ret => some .ret
section
variable {nt lc l D:Nat} {fnid:FuncId} {x y:Code} {fx fy:CF} {cx:Cx} {T0:Tmps} {a0:Act} {ps:Array Tmp} {ρ0:Rho} {h0:Heap} {n0:Nat} {w0:World}
def recL (fnid:FuncId) (a0:Act) (ps:Array Tmp) (x y:Code) (D:Nat) (st:LoopState) (pe:Option Code):Loop:={ state:=st,pending:=pe,fn:=fnid,tmps:=a0.tmps,params:=ps,assign:=x,body:=y,defers:=D }
structure Bt (g lk l D:Nat) (fnid:FuncId) (a0:Act) (ps:Array Tmp) (x y:Code) (ρ0:Rho) (h0:Heap) (n0:Nat) (w0:World) (st:LoopState) (pe:Option Code) (ρ:Rho) (h:Heap) (n:Nat) (w:World):Prop where
 em:Emb g lk ρ h n w
 sp:Stp lk ρ0 h0 n0 w0 ρ h n w
 rc:w.heap[l]? = some (.loop (recL fnid a0 ps x y D st pe))
 md:w.heap[D]? = some (.deferred (some []))
 al:Ap l ρ h n
 ad:Ap D ρ h n
theorem Bt.turn {lk:Nat} {st st':LoopState} {pe pe':Option Code} {ρ:Rho} {h:Heap} {n:Nat} {w:World} (hB:Bt g lk l D fnid a0 ps x y ρ0 h0 n0 w0 st pe ρ h n w) (hl:w0.heap.size ≤ l) (hne:D ≠ l) :
  Bt g lk l D fnid a0 ps x y ρ0 h0 n0 w0 st' pe' ρ h n (w.putObj l (.loop (recL fnid a0 ps x y D st' pe'))):=
 ⟨hB.em.put _ hB.al,hB.sp.put _ hl,World.putObj_heap_same (Array.getElem?_eq_some_iff.1 hB.rc).1,by rw [World.putObj_heap_other hne];exact hB.md,hB.al,hB.ad⟩
theorem Bt.go {lk:Nat} {st:LoopState} {pe:Option Code} {ρ ρ':Rho} {h h':Heap} {n n':Nat} {w w':World} (hB:Bt g lk l D fnid a0 ps x y ρ0 h0 n0 w0 st pe ρ h n w) (hE:Emb g lk ρ' h' n' w') (s:Stp lk ρ h n w ρ' h' n' w') :
  Bt g lk l D fnid a0 ps x y ρ0 h0 n0 w0 st pe ρ' h' n' w':=by
 obtain ⟨a1,a2⟩:=hB.al.step hB.em s hB.rc
 obtain ⟨b1,b2⟩:=hB.ad.step hB.em s hB.md
 exact ⟨hE,hB.sp.trans s,a1,b1,a2,b2⟩
theorem Df.puts {g lk l D:Nat} {fnid:FuncId} {a0:Act} {ps:Array Tmp} {x y:Code} {ρ0:Rho} {h0:Heap} {n0:Nat} {w0:World} {st:LoopState} {pe:Option Code} {ρ:Rho} {h:Heap} {n:Nat} {w:World} {ds:List Deferred} {r r':Loop}
 (_:Bt g lk l D fnid a0 ps x y ρ0 h0 n0 w0 st pe ρ h n (w.putObj l (.loop r))) (hD:Df 0 ρ h n w ds) (_:Ap l ρ h n) (hr:w.heap[l]? = some (.loop r')):Df 0 ρ h n (w.putObj l (.loop r)) ds:=by
 refine ⟨fun d hd => ?_,hD.nd⟩
 obtain ⟨D,e,h1,h2,h3⟩:=hD.al d hd
 refine ⟨D,e,h1,?_,h3⟩
 rw [World.putObj_heap_other]
 ·exact h2
 ·intro c;subst c;rw [h2] at hr;cases hr
theorem round_ok (hx:CodeOK P g nt lc x fx) (hy:CodeOK P g nt lc y fy) (fx0:flatC x = true) (fy0:flatC y = true) (hI:IHok P g cx.2) {p0 p1:Tmp} (hps:ps = #[p0,p1]) (h0n:p0 < nt) (h1n:p1 < nt) (hm0:memN p0 lc = false) (hm1:memN p1 lc = false)
  (hl:w0.heap.size ≤ l) (hne:D ≠ l) {ρ:Rho} {h:Heap} {n:Nat} {w:World} (hB:Bt g cx.1 l D fnid a0 ps x y ρ0 h0 n0 w0 .ready none ρ h n w) (hA:ActL ρ nt lc T0 a0) {v1 v2:AV} {u1 u2:Value} (r1:VR ρ v1 u1) (r2:VR ρ v2 u2)
  {k:Heap → Nat → Ans} {e:Ex} {T':Tmps} {h':Heap} {n':Nat} (hk:(asgK (fx.1 cx ((T0.set p0 v1).set p1 v2) h n) fun T h n => rndK (fy.1 cx T h n) T0 k) = .fin e T' h' n') :
  RoundIn (FR none) 0 P l fnid ((ps.zip #[u1,u2]).foldl (fun tmps (t,a) => tmps.setIfInBounds t a) a0.tmps) x y w fun e2 w2 =>
   (e2 = .returned (.bool true) ∧ ∃ ρ2 h2 n2,k h2 n2 = .fin e T' h' n' ∧ Bt g cx.1 l D fnid a0 ps x y ρ0 h0 n0 w0 .ready none ρ2 h2 n2 w2) ∨
   (e2 = .returned (.bool false) ∧ e ≠ .normal ∧ T' = T0 ∧ ∃ ρ2,Bt g cx.1 l D fnid a0 ps x y ρ0 h0 n0 w0 .done (jmp e) ρ2 h' n' w2):=by
 subst hps
 obtain ⟨T1,h1,n1,e1,hk⟩:=asgK_fin hk
 have hA2:=((hA.put h0n hm0 r1).put h1n hm1 r2)
 have htm:(((#[p0,p1].zip #[u1,u2]).foldl (fun tmps (t,a) => tmps.setIfInBounds t a) a0.tmps):Array Value) = ((a0.put (some p0) u1).put (some p1) u2).tmps:=by simp [Act.put]
 rw [htm]
 have hA3:ActL ρ nt lc ((T0.set p0 v1).set p1 v2) { tmps:=((a0.put (some p0) u1).put (some p1) u2).tmps,defers:=[] }:=⟨⟨hA2.sz0,hA2.le,hA2.tm⟩,hA2.lo⟩
 refine roundIn_of_wpIn (F:=FR none) trivial (wpIn_mono (hx cx _ h n _ _ _ _ hI e1 (some l) (.inr fx0) ρ _ w 0 hB.em hA3 Df.nil (Nat.zero_le _)).1 fun e' a1 w1 p => ?_)
 obtain ⟨q1,ρ1,q2,qd,q3,q4⟩:=p
 have:=exR_normal q1
 subst this
 have hB1:=hB.go q3 q4
 refine ⟨_,run_beginRound hB1.rc rfl,?_⟩
 have hB2:Bt g cx.1 l D fnid a0 #[p0,p1] x y ρ0 h0 n0 w0 .busy none ρ1 h1 n1 (w1.putObj l (.loop (recL fnid a0 #[p0,p1] x y D .busy none))):=hB1.turn hl hne
 have hb:∀ {e0:Ex} {T2:Tmps} {h2:Heap} {n2:Nat},fy.1 cx T1 h1 n1 = .fin e0 T2 h2 n2 →
   (e0 = .normal ∧ k h2 n2 = .fin e T' h' n' ∨ e0 = e ∧ e ≠ .normal ∧ h2 = h' ∧ n2 = n' ∧ T' = T0) → y.wpIn ((FR none).inRound l) 0 P (roundPost P l fun e2 w2 =>
   (e2 = .returned (.bool true) ∧ ∃ ρ2 h2 n2,k h2 n2 = .fin e T' h' n' ∧ Bt g cx.1 l D fnid a0 #[p0,p1] x y ρ0 h0 n0 w0 .ready none ρ2 h2 n2 w2) ∨
   (e2 = .returned (.bool false) ∧ e ≠ .normal ∧ T' = T0 ∧ ∃ ρ2,Bt g cx.1 l D fnid a0 #[p0,p1] x y ρ0 h0 n0 w0 .done (jmp e) ρ2 h' n' w2)) a1 (w1.putObj l (.loop (recL fnid a0 #[p0,p1] x y D .busy none))):=fun {e0 T2 h2 n2} hf hc => by
  have hA4:ActL ρ1 nt lc T1 a1:=q2
  have hD0:a1.defers = [] ∨ True:=.inr trivial
  refine wpIn_mono (hy cx T1 h1 n1 _ _ _ _ hI hf (some l) (.inr fy0) ρ1 a1 _ 0 hB2.em q2 (Df.puts hB2 qd hB1.al hB1.rc) (Nat.zero_le _)).1 fun e' a2 w2 p => ?_
  obtain ⟨s1,ρ2,_,_,s3,s4⟩:=p
  have hB3:=hB2.go s3 s4
  have fin:∀ jump:Option Code,(Instr.endRound l jump).run P w2 = .ok (.bool jump.isNone) (w2.putObj l (.loop (recL fnid a0 #[p0,p1] x y D (if jump.isNone then .ready else .done) jump))):=fun jump => run_endRound jump hB3.rc
  rcases hc with ⟨rfl,hk2⟩ | ⟨rfl,he,rfl,rfl,hT⟩
  ·have:=exR_normal s1
   subst this
   exact ⟨_,_,fin none,.inl ⟨rfl,ρ2,h2,n2,hk2,hB3.turn hl hne⟩⟩
  ·cases e0 with
   | normal => exact absurd rfl he
   | exit i =>
    have:=exR_exit s1
    subst this
    exact ⟨_,_,fin (some (.exit i)),.inr ⟨rfl,he,hT,ρ2,hB3.turn hl hne⟩⟩
   | ret =>
    have:=exR_ret s1
    subst this
    exact ⟨_,_,fin (some .ret),.inr ⟨rfl,he,hT,ρ2,hB3.turn hl hne⟩⟩
 rcases rndK_fin hk with ⟨T2,h2,n2,e2,e3⟩ | ⟨T2,e2,e3,e4⟩
 ·exact hb e2 (.inl ⟨rfl,e3⟩)
 ·exact hb e2 (.inr ⟨rfl,e3,rfl,rfl,e4⟩)
end
end EV
end
noncomputable section
namespace EV
open Go
variable {P:Program} {g:Nat}
section
variable {nt lc l D:Nat} {fnid:FuncId} {x y:Code} {fx fy:CF} {cx:Cx} {T0:Tmps} {a0:Act} {ρ0:Rho} {h0:Heap} {n0:Nat} {w0:World} {p0 p1:Tmp} {ts te ti tb ty:TypeId} {s:Nat} {agg:Bool}
theorem load_sl {W:World} {o:Oper} {a:Act} (hts:P.underlying ts = some (.slice te)) {t:Tmp} (ho:o.op = .load ts (.tmp t)) {A:Addr} (hp:a.tmps.getD t undef = .pointer (some A)) {u:Value} (hc:W.cell? A = some u):(execOp a.eval o).run P W = .ok (.value u) W:=by
 have ha:aggT P ts = some false:=by unfold aggT;rw [hts];rfl
 have hu:a.eval (.tmp t) = .pointer (some A):=hp
 simp [execOp,ho,hu,Instr.loadAt,Instr.sureAddr,loadVar,run_isAgg' ha,hc]
theorem elem_ok {lk:Nat} {ρ:Rho} {h:Heap} {n:Nat} {W:World} (hE:Emb g lk ρ h n W) {v:AV} {u:Value} (hv:VR ρ v u) (ht:v.1 = 4) {m:Nat} (hm:m < v.4.1) (hrow:isRow (hget h v.2) = true) (hle:v.3 + m * s + s ≤ (hget h v.2).3)
  (hts:P.underlying ts = some (.slice te)) (hs:szOf P te = some s) (ha:aggT P te = some agg) (h1:agg = false → 0 < s) :
  ∃ B off cap u2,u = .slice (some ⟨B,off,none⟩) v.4.1 cap ∧ VR ρ (bK agg (mAgg (getL s (v.3 + m * s) (hget h v.2).4)) (nth (getL s (v.3 + m * s) (hget h v.2).4) 0)) u2 ∧
   (∀ (a:Act) (o:Oper) (i j:Tmp),o.op = .indexAddr ts (.tmp i) (.tmp j) → a.tmps.getD i undef = u → a.tmps.getD j undef = .int .i64 (m:Int) → (execOp a.eval o).run P W = .ok (.value (.pointer (some ⟨B,off + m * s,none⟩))) W) ∧
   (∀ (a:Act) (o:Oper) (i:Tmp),o.op = .load te (.tmp i) → a.tmps.getD i undef = .pointer (some ⟨B,off + m * s,none⟩) → (execOp a.eval o).run P W = .ok (.value u2) W):=by
 obtain ⟨pl,A,cap,hp,hu,c1,c2,c3,c4⟩:=VR_4 hv ht
 have hA:A = ⟨pl.B,pl.o + v.3,none⟩:=c3.resolve_right (by omega)
 subst hA
 obtain ⟨_,_,_,hcell,_⟩:=row_of hE hp hrow
 obtain ⟨us,g1,g2,g3,g4⟩:=cells_list hcell s (v.3 + m * s) hle
 have hidx:∀ (a:Act) (o:Oper) (i j:Tmp),o.op = .indexAddr ts (.tmp i) (.tmp j) → a.tmps.getD i undef = u → a.tmps.getD j undef = .int .i64 (m:Int) → (execOp a.eval o).run P W = .ok (.value (.pointer (some ⟨pl.B,pl.o + v.3 + m * s,none⟩))) W:=fun a o i j ho hi hj => by
  have hi:a.eval (.tmp i) = u:=hi
  have hj:a.eval (.tmp j) = .int .i64 (m:Int):=hj
  rw [hu] at hi
  have h0:(0:Int) ≤ (m:Int) ∧ (m:Int) < (v.4.1:Int):=by omega
  simp only [execOp,ho,hi,hj,Instr.indexAt,asIntOf,Sem.run_bind,Sem.run_pure,Result.andThen_ok,run_underlying' hts,Instr.sureAddr,h0,and_self,if_true,run_sizeOf' hs,addr_mul]
 cases agg with
 | true =>
  have hl:=run_loadCells_list (P:=P) W ⟨pl.B,pl.o + v.3 + m * s,none⟩ us (fun j w hw => by rw [addr_add];have:=g2 j w hw;rwa [show pl.o + (v.3 + m * s) + j = pl.o + v.3 + m * s + j by omega] at this)
  rw [g1] at hl
  refine ⟨pl.B,pl.o + v.3,cap,.agg us.toArray,hu,VR_mAgg (by simpa using g4) (by simpa using g3),hidx,fun a o i ho hi => ?_⟩
  have hi:a.eval (.tmp i) = _:=hi
  simp [execOp,ho,hi,Instr.loadAt,Instr.sureAddr,loadVar,run_isAgg' ha,run_sizeOf' hs,hl]
 | false =>
  have h0:=h1 rfl
  obtain ⟨u2,q1,_,q3⟩:=hcell (v.3 + m * s) (by omega)
  have hn:nth (getL s (v.3 + m * s) (hget h v.2).4) 0 = (hget h v.2).4.get (v.3 + m * s):=by
   cases s with
   | zero => omega
   | succ s =>
    unfold getL
    rw [List.range_succ_eq_map]
    rfl
  refine ⟨pl.B,pl.o + v.3,cap,u2,hu,by change VR ρ (nth (getL s (v.3 + m * s) (hget h v.2).4) 0) u2;rw [hn];exact q3,hidx,fun a o i ho hi => ?_⟩
  have hi:a.eval (.tmp i) = _:=hi
  have q1:W.cell? ⟨pl.B,pl.o + v.3 + m * s,none⟩ = some u2:=by rw [← q1];congr 2;omega
  simp [execOp,ho,hi,Instr.loadAt,Instr.sureAddr,loadVar,run_isAgg' ha,q1]
def QL (g lk l D:Nat) (fnid:FuncId) (a0:Act) (ps:Array Tmp) (x y:Code) (T0:Tmps) (ρ0:Rho) (h0:Heap) (n0:Nat) (w0:World) (e:Ex) (T':Tmps) (h':Heap) (n':Nat):Exit → Act → World → Prop:=fun e' a' w' =>
 (e' = .exit 0 ∨ e' = .ret) ∧ a'.defers = [] ∧ T' = T0 ∧ ∃ ρ',Bt g lk l D fnid a0 ps x y ρ0 h0 n0 w0 (if (jmp e).isNone then .ready else .done) (jmp e) ρ' h' n' w'
def BI (g nt lc l D:Nat) (fnid:FuncId) (a0:Act) (p0 p1:Tmp) (x y:Code) (fx fy:CF) (cx:Cx) (agg:Bool) (s:Nat) (T0:Tmps) (ρ0:Rho) (h0:Heap) (n0:Nat) (w0:World) (c:AV) (A:Addr) (e:Ex) (T':Tmps) (h':Heap) (n':Nat) (a:Act) (w:World):Prop:=
 ∃ (m:Nat) (ρ:Rho) (h:Heap) (n:Nat),a.tmps.size = 19 ∧ a.defers = [] ∧ a.tmps.getD 0 undef = .func (.yield l) #[] #[] ∧ a.tmps.getD 1 undef = .pointer (some A) ∧ a.tmps.getD 3 undef = .int .i64 ((m:Int) - 1) ∧ m ≤ 9223372036854775807 ∧
  VR ρ0 c (.pointer (some A)) ∧ ActL ρ0 nt lc T0 a0 ∧ Bt g cx.1 l D fnid a0 #[p0,p1] x y ρ0 h0 n0 w0 .ready none ρ h n w ∧ backL fx fy p0 p1 agg s cx c T0 m h n = .fin e T' h' n'
def mu (a:Act) (_:World):Nat:=match a.tmps.getD 3 undef with | .int _ i => (i + 1).toNat | _ => 0
theorem mu_eq {a:Act} {w:World} {m:Nat} (h:a.tmps.getD 3 undef = .int .i64 ((m:Int) - 1)):mu a w = m:=by
 unfold mu
 rw [h]
 simp
theorem loop_round (hx:CodeOK P g nt lc x fx) (hy:CodeOK P g nt lc y fy) (fx0:flatC x = true) (fy0:flatC y = true) (hI:IHok P g cx.2) (h0n:p0 < nt) (h1n:p1 < nt) (hm0:memN p0 lc = false) (hm1:memN p1 lc = false)
  (hl:w0.heap.size ≤ l) (hne:D ≠ l) (hts:P.underlying ts = some (.slice te)) (hs:szOf P te = some s) (ha:aggT P te = some agg) (h1:agg = false → 0 < s) {c:AV} {A:Addr} {e:Ex} {T':Tmps} {h':Heap} {n':Nat} (hc3:c.1 = 3) (a:Act) (w:World)
  (hB:BI g nt lc l D fnid a0 p0 p1 x y fx fy cx agg s T0 ρ0 h0 n0 w0 c A e T' h' n' a w) :
  (bLoop ts te ti tb ty).wpIn (FR none) 0 P (Exit.then (fun a' w' => BI g nt lc l D fnid a0 p0 p1 x y fx fy cx agg s T0 ρ0 h0 n0 w0 c A e T' h' n' a' w' ∧ mu a' w' < mu a w) (QL g cx.1 l D fnid a0 #[p0,p1] x y T0 ρ0 h0 n0 w0 e T' h' n')) a w:=by
 obtain ⟨m,ρ,h,n,hsz,hdf,e0,e1,e3,hmb,hcA0,hA0,hBt,hk⟩:=hB
 have hcA:=hcA0.mono hBt.sp.ext
 have hA:=hA0.mono hBt.sp.ext
 have hmu:mu a w = m:=mu_eq e3
 refine wpIn_seq (wpIn_seq (wpIn_region_list ?_))
 -- region 1
 refine stepV rfl (fun c e => by cases e) (v:=.int .i64 ((m:Int) - 1)) (w':=w) (by simp [bOp,execOp,eval_tmp,e3]) ?_
 refine stepV rfl (fun c e => by cases e) (v:=.bool (decide (0 ≤ (m:Int) - 1))) (w':=w) ?_ ?_
 ·simp only [bOp,execOp,eval_tmp,put_get (show 7 < a.tmps.size by omega),if_true]
  simp only [Act.eval,guard_int,Sem.run_bind,run_geq0,Result.andThen_ok,Sem.run_pure]
 refine wpListIn_nil ?_
 change (Code.cond (.tmp 8) .skip (.exit 0)).wpIn (FR none) 0 P _ ((a.put (some 7) (.int .i64 ((m:Int) - 1))).put (some 8) (.bool (decide (0 ≤ (m:Int) - 1)))) w
 obtain ⟨b,hb⟩:∃ b,b = (a.put (some 7) (.int .i64 ((m:Int) - 1))).put (some 8) (.bool (decide (0 ≤ (m:Int) - 1))):=⟨_,rfl⟩
 have s1:b.tmps.size = 19:=by rw [hb,put_size,put_size,hsz]
 have g1:∀ t:Nat,t ≠ 7 → t ≠ 8 → b.tmps.getD t undef = a.tmps.getD t undef:=fun t h7 h8 => by
  rw [hb]
  rw [getD_put _ _ _ _ h8,getD_put _ _ _ _ h7]
 have g8:b.tmps.getD 8 undef = .bool (decide (0 ≤ (m:Int) - 1)):=by
  rw [hb]
  exact put_at (by rw [put_size,hsz];decide)
 have df1:b.defers = []:=by rw [hb,put_defers,put_defers,hdf]
 rw [← hb]
 clear hb
 cases m with
 | zero =>
  refine wpIn_cond_false (by rw [eval_tmp,g8];rfl) (wpIn_exit ?_)
  have hk:Ans.fin .normal T0 h n = .fin e T' h' n':=hk
  cases hk
  exact ⟨.inl rfl,df1,rfl,ρ,hBt⟩
 | succ m =>
  refine wpIn_cond_true (by rw [eval_tmp,g8];simp) (wpIn_skip ?_)
  change (Code.seq _ _).wpIn (FR none) 0 P _ b w
  have hi:(((m + 1:Nat):Int) - 1) = (m:Int):=by omega
  rw [hi] at e3
  -- what the evaluator has seen
  have hk:(rowOf h c.2 fun r => bA (Nat.blt c.3 r.3) (isT (nat_lit 4) ((cellF c.3).1 r.4) (bA (Nat.blt m ((cellF c.3).1 r.4).4.1)
   (rowOf h ((cellF c.3).1 r.4).2 fun q => bA (Nat.ble (Nat.add (Nat.add ((cellF c.3).1 r.4).3 (Nat.mul m s)) s) q.3)
    (getN s (Nat.add ((cellF c.3).1 r.4).3 (Nat.mul m s)) q.4 fun l => (tmpF p0).2 (mInt (nat_lit 19) m) T0 fun T => (tmpF p1).2 (bK agg (mAgg l) (nth l (nat_lit 0))) T fun T =>
     asgK (fx.1 cx T h n) fun T h n => rndK (fy.1 cx T h n) T0 (backL fx fy p0 p1 agg s cx c T0 m)) (.fail 74)) (.fail 75))) (.fail 76)) = .fin e T' h' n':=hk
  obtain ⟨r1,e4⟩:=rowOf_ok (fin_ok hk)
  rw [e4] at hk
  obtain ⟨r2,e4⟩:=bA_ok (fin_ok hk)
  rw [e4,cellF_get] at hk
  obtain ⟨r3,e4⟩:=isT_ok (fin_ok hk)
  rw [e4] at hk
  obtain ⟨r4,e4⟩:=bA_ok (fin_ok hk)
  rw [e4] at hk
  obtain ⟨r5,e4⟩:=rowOf_ok (fin_ok hk)
  rw [e4] at hk
  obtain ⟨r6,e4⟩:=bA_ok (fin_ok hk)
  rw [e4,getN_eq,tmpF_put,tmpF_put] at hk
  -- the slice
  obtain ⟨pl,hp,hu⟩:=VR_3 hcA hc3
  have hA':A = ⟨pl.B,pl.o + c.3,none⟩:=by injection hu with hu;injection hu
  obtain ⟨_,_,_,hcell,_⟩:=row_of hBt.em hp r1
  obtain ⟨us,q1,_,q3⟩:=hcell c.3 (bltE r2)
  rw [← hA'] at q1
  obtain ⟨B,off,cap,u2,hus,hv2,hidx,hld⟩:=elem_ok (ts:=ts) (te:=te) hBt.em q3 r3 (bltE r4) r5 (Nat.le_of_ble_eq_true r6) hts hs ha h1
  have hv1:VR ρ (mInt 19 m) (.int .i64 (m:Int)):=by
   have:=VR_mInt (ρ:=ρ) .i64 (m:=m) (by have:md .i64 = 18446744073709551616:=rfl;omega)
   rwa [toI_nonneg (k:=.i64) (show m < 9223372036854775808 by omega)] at this
  have hrd:=round_ok hx hy fx0 fy0 hI (ps:=#[p0,p1]) rfl h0n h1n hm0 hm1 hl hne hBt hA hv1 hv2 hk
  refine wpIn_seq (wpIn_block (wpIn_seq (wpIn_region_list ?_)))
  -- region 3
  obtain ⟨b1,hb1⟩:∃ z,z = b.put (some 11) (.func (.yield l) #[] #[]):=⟨_,rfl⟩
  obtain ⟨b2,hb2⟩:∃ z,z = b1.put (some 12) (.int .i64 (m:Int)):=⟨_,rfl⟩
  obtain ⟨b3,hb3⟩:∃ z,z = b2.put (some 13) us:=⟨_,rfl⟩
  obtain ⟨b4,hb4⟩:∃ z,z = b3.put (some 14) (.int .i64 (m:Int)):=⟨_,rfl⟩
  obtain ⟨b5,hb5⟩:∃ z,z = b4.put (some 15) (.pointer (some ⟨B,off + m * s,none⟩)):=⟨_,rfl⟩
  obtain ⟨b6,hb6⟩:∃ z,z = b5.put (some 16) u2:=⟨_,rfl⟩
  have z1:b1.tmps.size = 19:=by rw [hb1,put_size,s1]
  have z2:b2.tmps.size = 19:=by rw [hb2,put_size,z1]
  have z3:b3.tmps.size = 19:=by rw [hb3,put_size,z2]
  have z4:b4.tmps.size = 19:=by rw [hb4,put_size,z3]
  have z5:b5.tmps.size = 19:=by rw [hb5,put_size,z4]
  have z6:b6.tmps.size = 19:=by rw [hb6,put_size,z5]
  have o3:b.tmps.getD 3 undef = .int .i64 (m:Int):=by rw [g1 3 (by decide) (by decide),e3]
  have o1:b.tmps.getD 1 undef = .pointer (some A):=by rw [g1 1 (by decide) (by decide),e1]
  have o0:b.tmps.getD 0 undef = .func (.yield l) #[] #[]:=by rw [g1 0 (by decide) (by decide),e0]
  have d6:b6.defers = []:=by rw [hb6,put_defers,hb5,put_defers,hb4,put_defers,hb3,put_defers,hb2,put_defers,hb1,put_defers,df1]
  refine stepV rfl (fun c e => by cases e) (v:=.func (.yield l) #[] #[]) (w':=w) (by simp only [bOp,execOp,eval_tmp,o0];rfl) ?_
  change wpListIn (FR none) 0 P _ _ _ (b.put (some 11) _) w
  rw [← hb1]
  refine stepV rfl (fun c e => by cases e) (v:=.int .i64 (m:Int)) (w':=w) (by
   have:b1.tmps.getD 3 undef = .int .i64 (m:Int):=by rw [hb1,getD_put _ _ _ _ (by decide),o3]
   simp only [bOp,execOp,eval_tmp,this];rfl) ?_
  change wpListIn (FR none) 0 P _ _ _ (b1.put (some 12) _) w
  rw [← hb2]
  refine stepV rfl (fun c e => by cases e) (v:=us) (w':=w) (load_sl (te:=te) hts (t:=1) rfl (by rw [hb2,getD_put _ _ _ _ (by decide),hb1,getD_put _ _ _ _ (by decide),o1]) q1) ?_
  change wpListIn (FR none) 0 P _ _ _ (b2.put (some 13) _) w
  rw [← hb3]
  refine stepV rfl (fun c e => by cases e) (v:=.int .i64 (m:Int)) (w':=w) (by
   have:b3.tmps.getD 3 undef = .int .i64 (m:Int):=by rw [hb3,getD_put _ _ _ _ (by decide),hb2,getD_put _ _ _ _ (by decide),hb1,getD_put _ _ _ _ (by decide),o3]
   simp only [bOp,execOp,eval_tmp,this];rfl) ?_
  change wpListIn (FR none) 0 P _ _ _ (b3.put (some 14) _) w
  rw [← hb4]
  refine stepV rfl (fun c e => by cases e) (v:=.pointer (some ⟨B,off + m * s,none⟩)) (w':=w) (hidx _ _ 13 14 rfl
   (by rw [hb4,getD_put _ _ _ _ (by decide),hb3,put_at (by rw [z2];decide)])
   (by rw [hb4,put_at (by rw [z3];decide)])) ?_
  change wpListIn (FR none) 0 P _ _ _ (b4.put (some 15) _) w
  rw [← hb5]
  refine stepV rfl (fun c e => by cases e) (v:=u2) (w':=w) (hld _ _ 15 rfl (by rw [hb5,put_at (by rw [z4];decide)])) ?_
  change wpListIn (FR none) 0 P _ _ _ (b5.put (some 16) _) w
  rw [← hb6]
  have y11:b6.tmps.getD 11 undef = .func (.yield l) #[] #[]:=by
   rw [hb6,getD_put _ _ _ _ (by decide),hb5,getD_put _ _ _ _ (by decide),hb4,getD_put _ _ _ _ (by decide),hb3,getD_put _ _ _ _ (by decide),hb2,getD_put _ _ _ _ (by decide),hb1,put_at (by rw [s1];decide)]
  have y12:b6.tmps.getD 12 undef = .int .i64 (m:Int):=by
   rw [hb6,getD_put _ _ _ _ (by decide),hb5,getD_put _ _ _ _ (by decide),hb4,getD_put _ _ _ _ (by decide),hb3,getD_put _ _ _ _ (by decide),hb2,put_at (by rw [z1];decide)]
  have y16:b6.tmps.getD 16 undef = u2:=by rw [hb6,put_at (by rw [z5];decide)]
  have low:∀ t:Nat,t < 7 → b6.tmps.getD t undef = a.tmps.getD t undef:=fun t ht => by
   rw [hb6,getD_put _ _ _ _ (by omega),hb5,getD_put _ _ _ _ (by omega),hb4,getD_put _ _ _ _ (by omega),hb3,getD_put _ _ _ _ (by omega),hb2,getD_put _ _ _ _ (by omega),hb1,getD_put _ _ _ _ (by omega),g1 t (by omega) (by omega)]
  clear hb1 hb2 hb3 hb4 hb5 hb6 z1 z2 z3 z4 z5 o0 o1 o3 g1 g8
  -- the round
  refine wpListIn_plain rfl fun K hK => ⟨fun _ _ => trivial,?_⟩
  rw [Oper.semAt_eq _ _ _ (fun c e => by cases e)]
  have hrun:(execOp b6.eval (bOp (some 17) (.call { callee:=.value (.tmp 11),args:=#[.tmp 12,.tmp 16],argTypes:=#[ti,te] }) tb "iter.go:29" #[{ on:=0,ground:=.data },{ on:=1,ground:=.data },{ on:=5,ground:=.data }])).run P w =
    .ok (.round l fnid ((#[p0,p1].zip #[.int .i64 (m:Int),u2]).foldl (fun tmps (t,a) => tmps.setIfInBounds t a) a0.tmps) x y) w:=by
   have hy:=run_yield (P:=P) (args:=#[.int .i64 (m:Int),u2]) hBt.rc rfl
   simp only [bOp,execOp,resolve,eval_tmp,y11,y12,y16,Deferred.ofValue,Sem.run_bind,Sem.run_pure,Result.andThen_ok,invoke,List.map_toArray,List.map_cons,List.map_nil]
   simpa [eval_tmp,y12,y16,recL] using hy
  rw [hrun,Oper.uponIn_round]
  refine ⟨fun hh => by simp [FR] at hh,RoundIn.mono hrd fun e2 w2 hh => ?_⟩
  rcases hh with ⟨rfl,ρ2,h2,n2,hk2,hB2⟩ | ⟨rfl,he,hT,ρ2,hB2⟩
  ·refine hK _ _ ?_
   change wpListIn (FR none) 0 P _ _ _ (b6.put (some 17) (.bool true)) w2
   obtain ⟨c1,hc1⟩:∃ z,z = b6.put (some 17) (.bool true):=⟨_,rfl⟩
   rw [← hc1]
   have z7:c1.tmps.size = 19:=by rw [hc1,put_size,z6]
   refine stepV rfl (fun c e => by cases e) (v:=.bool false) (w':=w2) (by
    have:c1.tmps.getD 17 undef = .bool true:=by rw [hc1,put_at (by rw [z6];decide)]
    simp only [bOp,execOp,eval_tmp,this];rfl) ?_
   refine wpListIn_nil ?_
   change (Code.cond (.tmp 18) .ret .skip).wpIn (FR none) 0 P _ (c1.put (some 18) (.bool false)) w2
   refine wpIn_cond_false (by rw [eval_tmp,put_at (by rw [z7];decide)]) (wpIn_skip ?_)
   change (Code.region 2 (bR2 ti) false).wpIn (FR none) 0 P _ (c1.put (some 18) (.bool false)) w2
   obtain ⟨c2,hc2⟩:∃ z,z = c1.put (some 18) (.bool false):=⟨_,rfl⟩
   rw [← hc2]
   have z8:c2.tmps.size = 19:=by rw [hc2,put_size,z7]
   have low2:∀ t:Nat,t < 7 → c2.tmps.getD t undef = a.tmps.getD t undef:=fun t ht => by
    rw [hc2,getD_put _ _ _ _ (by omega),hc1,getD_put _ _ _ _ (by omega),low t ht]
   have d8:c2.defers = []:=by rw [hc2,put_defers,hc1,put_defers,d6]
   refine wpIn_region_list ?_
   refine stepV rfl (fun c e => by cases e) (v:=.int .i64 (m:Int)) (w':=w2) (by
    have:c2.tmps.getD 3 undef = .int .i64 (m:Int):=by rw [low2 3 (by decide),e3]
    simp only [bOp,execOp,eval_tmp,this];rfl) ?_
   change wpListIn (FR none) 0 P _ _ _ (c2.put (some 9) _) w2
   obtain ⟨c3,hc3'⟩:∃ z,z = c2.put (some 9) (.int .i64 (m:Int)):=⟨_,rfl⟩
   rw [← hc3']
   have z9:c3.tmps.size = 19:=by rw [hc3',put_size,z8]
   refine stepV rfl (fun c e => by cases e) (v:=.int .i64 ((m:Int) - 1)) (w':=w2) (by
    have:c3.tmps.getD 9 undef = .int .i64 (m:Int):=by rw [hc3',put_at (by rw [z8];decide)]
    simp only [bOp,execOp,eval_tmp,this]
    simp only [Act.eval,guard_int,Sem.run_bind,run_sub1 (show (0:Int) ≤ (m:Int) by omega) (show (m:Int) < 9223372036854775808 by omega),Result.andThen_ok,Sem.run_pure]) ?_
   change wpListIn (FR none) 0 P _ _ _ (c3.put (some 10) _) w2
   obtain ⟨c4,hc4⟩:∃ z,z = c3.put (some 10) (.int .i64 ((m:Int) - 1)):=⟨_,rfl⟩
   rw [← hc4]
   have z10:c4.tmps.size = 19:=by rw [hc4,put_size,z9]
   refine stepV rfl (fun c e => by cases e) (v:=.int .i64 ((m:Int) - 1)) (w':=w2) (by
    have:c4.tmps.getD 10 undef = .int .i64 ((m:Int) - 1):=by rw [hc4,put_at (by rw [z9];decide)]
    simp only [bOp,execOp,eval_tmp,this];rfl) ?_
   refine wpListIn_nil ?_
   have g3:(c4.put (some 3) (.int .i64 ((m:Int) - 1))).tmps.getD 3 undef = .int .i64 ((m:Int) - 1):=put_at (by rw [z10];decide)
   have lw:∀ t:Nat,t < 3 → (c4.put (some 3) (.int .i64 ((m:Int) - 1))).tmps.getD t undef = a.tmps.getD t undef:=fun t ht => by
    rw [getD_put _ _ _ _ (by omega),hc4,getD_put _ _ _ _ (by omega),hc3',getD_put _ _ _ _ (by omega),low2 t (by omega)]
   refine ⟨⟨m,ρ2,h2,n2,by change (c4.put (some 3) _).tmps.size = 19;rw [put_size,z10],by change (c4.put (some 3) _).defers = [];rw [put_defers,hc4,put_defers,hc3',put_defers,d8],?_,?_,g3,by omega,hcA0,hA0,hB2,hk2⟩,?_⟩
   ·exact (lw 0 (by decide)).trans e0
   ·exact (lw 1 (by decide)).trans e1
   ·rw [hmu]
    exact Nat.lt_of_le_of_lt (Nat.le_of_eq (mu_eq g3)) (Nat.lt_succ_self m)
  ·refine hK _ _ ?_
   change wpListIn (FR none) 0 P _ _ _ (b6.put (some 17) (.bool false)) w2
   obtain ⟨c1,hc1⟩:∃ z,z = b6.put (some 17) (.bool false):=⟨_,rfl⟩
   rw [← hc1]
   have z7:c1.tmps.size = 19:=by rw [hc1,put_size,z6]
   refine stepV rfl (fun c e => by cases e) (v:=.bool true) (w':=w2) (by
    have:c1.tmps.getD 17 undef = .bool false:=by rw [hc1,put_at (by rw [z6];decide)]
    simp only [bOp,execOp,eval_tmp,this];rfl) ?_
   refine wpListIn_nil ?_
   change (Code.cond (.tmp 18) .ret .skip).wpIn (FR none) 0 P _ (c1.put (some 18) (.bool true)) w2
   refine wpIn_cond_true (by rw [eval_tmp,put_at (by rw [z7];decide)]) (wpIn_ret ?_)
   refine ⟨.inr rfl,by rw [put_defers,hc1,put_defers,d6],hT,ρ2,?_⟩
   cases e with
   | normal => exact absurd rfl he
   | exit i => exact hB2
   | ret => exact hB2
end
end EV
end
noncomputable section
namespace EV
open Go
variable {P:Program}
theorem len_run {ts te ti:TypeId} (hts:P.underlying ts = some (.slice te)) {o:Oper} (ho:o.op = .call { callee:=.builtin .len,args:=#[.tmp 4],argTypes:=#[ts] }) {a:Act} {A:Option Addr} {m cap:Nat} (h4:a.tmps.getD 4 undef = .slice A m cap) (w:World) :
  (execOp a.eval o).run P w = .ok (.value (goInt m)) w:=by
 simp [execOp,ho,resolve,invoke,eval_tmp,h4,builtin,Builtin.len_,run_underlying' hts]
theorem alloc2_old (w:World) (o o':Obj) (B:Nat) (hB:B < w.heap.size):((w.alloc o).alloc o').heap[B]? = w.heap[B]?:=by
 rw [heap_alloc_old _ _ B (by simp;omega),heap_alloc_old _ _ B hB]
theorem back_body {g nt lc l D:Nat} {fnid:FuncId} {x y:Code} {fx fy:CF} {cx:Cx} {T:Tmps} {a:Act} {ρ:Rho} {h:Heap} {n:Nat} {w W1:World} {p0 p1:Tmp} {ts te ti tb ty:TypeId} {s m cap:Nat} {agg:Bool} {fn:Func} {c:AV} {pl:Pl} {uc us:Value} {A:Option Addr}
  {e:Ex} {T':Tmps} {h':Heap} {n':Nat} (_:fn.body = some (backBody ts te ti tb ty)) (b3:fn.ntmps = 19) (b4:fn.results = #[]) (b6:P.underlying ts = some (.slice te)) (b7:szOf P te = some s) (b8:aggT P te = some agg) (h1:agg = false → 0 < s)
  (hx:CodeOK P g nt lc x fx) (hy:CodeOK P g nt lc y fy) (fx0:flatC x = true) (fy0:flatC y = true) (hI:IHok P g cx.2) (h0n:p0 < nt) (h1n:p1 < nt) (hm0:memN p0 lc = false) (hm1:memN p1 lc = false) (hl:w.heap.size ≤ l) (hne:D ≠ l)
  (k6:c.1 = 3) (huc:uc = .pointer (some ⟨pl.B,pl.o + c.3,none⟩)) (rc:VR ρ c uc) (hA:ActL ρ nt lc T a) (hBt:Bt g cx.1 l D fnid a #[p0,p1] x y ρ h n w .ready none ρ h n W1) (hus:us = .slice A m cap) (hmb:m ≤ 9223372036854775807)
  (hbl:backL fx fy p0 p1 agg s cx c T m h n = .fin e T' h' n') (q1':W1.cell? ⟨pl.B,pl.o + c.3,none⟩ = some us) :
  (backBody ts te ti tb ty).wpIn (FR none) 0 P (bodyPost P fn fun e2 W2 => (∃ v,e2 = .returned v) ∧ T' = T ∧ ∃ ρ',Bt g cx.1 l D fnid a #[p0,p1] x y ρ h n w (if (jmp e).isNone then .ready else .done) (jmp e) ρ' h' n' W2)
   { tmps:=#[.func (.yield l) #[] #[],uc] ++ Array.replicate (fn.ntmps - #[Value.func (.yield l) #[] #[],uc].size) undef,defers:=[] } W1:=by
 rw [b3]
 obtain ⟨t0,ht0⟩:∃ z:Act,z = { tmps:=#[.func (.yield l) #[] #[],uc] ++ Array.replicate (19 - 2) undef,defers:=[] }:=⟨_,rfl⟩
 have ht1:({ tmps:=#[.func (.yield l) #[] #[],uc] ++ Array.replicate (19 - #[Value.func (.yield l) #[] #[],uc].size) undef,defers:=[] }:Act) = t0:=by rw [ht0];rfl
 rw [ht1]
 have z0:t0.tmps.size = 19:=by rw [ht0];simp
 have y0:t0.tmps.getD 0 undef = .func (.yield l) #[] #[]:=by rw [ht0,Array.getD_eq_getD_getElem?,Array.getElem?_append_left (by simp)];simp
 have y1:t0.tmps.getD 1 undef = .pointer (some ⟨pl.B,pl.o + c.3,none⟩):=by rw [ht0,← huc,Array.getD_eq_getD_getElem?,Array.getElem?_append_left (by simp)];simp
 have d0:t0.defers = []:=by rw [ht0]
 clear ht0 ht1
 refine wpIn_seq (wpIn_region_list ?_)
 obtain ⟨t1,ht1⟩:∃ z,z = t0.put (some 4) us:=⟨_,rfl⟩
 obtain ⟨t2,ht2⟩:∃ z,z = t1.put (some 5) (goInt m):=⟨_,rfl⟩
 obtain ⟨t3,ht3⟩:∃ z,z = t2.put (some 6) (.int .i64 ((m:Int) - 1)):=⟨_,rfl⟩
 obtain ⟨t4,ht4⟩:∃ z,z = t3.put (some 3) (.int .i64 ((m:Int) - 1)):=⟨_,rfl⟩
 have z1:t1.tmps.size = 19:=by rw [ht1,put_size,z0]
 have z2:t2.tmps.size = 19:=by rw [ht2,put_size,z1]
 have z3:t3.tmps.size = 19:=by rw [ht3,put_size,z2]
 have z4:t4.tmps.size = 19:=by rw [ht4,put_size,z3]
 refine stepV rfl (fun c e => by cases e) (v:=us) (w':=W1) (load_sl (te:=te) b6 (t:=1) rfl y1 q1') ?_
 change wpListIn (FR none) 0 P _ _ _ (t0.put (some 4) _) W1
 rw [← ht1]
 refine stepV rfl (fun c e => by cases e) (v:=goInt m) (w':=W1) (len_run (ti:=ti) b6 rfl (by rw [ht1,put_at (by rw [z0];decide),hus]) W1) ?_
 change wpListIn (FR none) 0 P _ _ _ (t1.put (some 5) _) W1
 rw [← ht2]
 refine stepV rfl (fun c e => by cases e) (v:=.int .i64 ((m:Int) - 1)) (w':=W1) (by
  have:t2.tmps.getD 5 undef = .int .i64 (m:Int):=by rw [ht2,put_at (by rw [z1];decide)];rfl
  simp only [bOp,execOp,eval_tmp,this]
  simp only [Act.eval,guard_int,Sem.run_bind,run_sub1 (show (0:Int) ≤ (m:Int) by omega) (show (m:Int) < 9223372036854775808 by omega),Result.andThen_ok,Sem.run_pure]) ?_
 change wpListIn (FR none) 0 P _ _ _ (t2.put (some 6) _) W1
 rw [← ht3]
 refine stepV rfl (fun c e => by cases e) (v:=.int .i64 ((m:Int) - 1)) (w':=W1) (by
  have:t3.tmps.getD 6 undef = .int .i64 ((m:Int) - 1):=by rw [ht3,put_at (by rw [z2];decide)]
  simp only [bOp,execOp,eval_tmp,this];rfl) ?_
 refine wpListIn_nil ?_
 change (Code.block 0 (.loop (bLoop ts te ti tb ty))).wpIn (FR none) 0 P _ (t3.put (some 3) _) W1
 rw [← ht4]
 have lw:∀ t:Nat,t < 3 → t4.tmps.getD t undef = t0.tmps.getD t undef:=fun t ht => by
  rw [ht4,getD_put _ _ _ _ (by omega),ht3,getD_put _ _ _ _ (by omega),ht2,getD_put _ _ _ _ (by omega),ht1,getD_put _ _ _ _ (by omega)]
 have hI0:BI g nt lc l D fnid a p0 p1 x y fx fy cx agg s T ρ h n w c ⟨pl.B,pl.o + c.3,none⟩ e T' h' n' t4 W1:=
  ⟨m,ρ,h,n,z4,by rw [ht4,put_defers,ht3,put_defers,ht2,put_defers,ht1,put_defers,d0],(lw 0 (by decide)).trans y0,(lw 1 (by decide)).trans y1,by rw [ht4,put_at (by rw [z3];decide)],hmb,huc ▸ rc,hA,hBt,hbl⟩
 refine wpIn_block (wpIn_mono (wpIn_loop (Q:=QL g cx.1 l D fnid a #[p0,p1] x y T ρ h n w e T' h' n') (fun a' w' => BI g nt lc l D fnid a p0 p1 x y fx fy cx agg s T ρ h n w c ⟨pl.B,pl.o + c.3,none⟩ e T' h' n' a' w') mu hI0
  fun a' w' hB => loop_round hx hy fx0 fy0 hI h0n h1n hm0 hm1 hl hne b6 b7 b8 h1 k6 a' w' hB) fun e' a' w' hQ => ?_)
 obtain ⟨o1,o2,o3,ρ',o4⟩:=hQ
 have hres:(results fn a'.tmps).run P w' = .ok (.tuple #[]) w':=by
  rw [results_eq,b4]
  simp
 rcases o1 with rfl | rfl
 ·simp only [Exit.inBlock,if_true]
  exact ⟨o2,_,hres,⟨_,rfl⟩,o3,ρ',o4⟩
 ·exact ⟨o2,_,hres,⟨_,rfl⟩,o3,ρ',o4⟩
theorem range_clause {bk:Nat → Option (P2 Nat Bool)} (hbk:BkOK P bk):RangeOK P bk:=by
 intro nt lc f ps x y fx fy fx0 fy0 hx hy hg hm0 hm1
 refine .of (fun _ c => by cases c) fun cx T h n e T' h' n' hI hk ro hr ρ a w lo hE hA hD hlo => ?_
 have hro:ro = none:=by
  rcases hr with c | c
  ·exact c
  ·cases c
 subst hro
 have hk:isT (nat_lit 10) ((opd [] f).1 ⟨T,PUnit.unit⟩) (bA (Nat.beq ps.size (nat_lit 2)) (bA (Nat.blt (ps.getD 0 0) nt) (bA (Nat.blt (ps.getD 1 0) nt)
   (oF (bk ((opd [] f).1 ⟨T,PUnit.unit⟩).2) fun q => rangeB fx fy (ps.getD 0 0) (ps.getD 1 0) q cx ((opd [] f).1 ⟨T,PUnit.unit⟩) T h n) (.fail 79)) (.fail 79)) (.fail 79)) = .fin e T' h' n':=hk
 have hv:=opd_rel hE hA EnvR.nil hg
 generalize (opd [] f).1 ⟨T,PUnit.unit⟩ = F at hk hv
 obtain ⟨k1,e1⟩:=isT_ok (fin_ok hk)
 rw [e1] at hk
 obtain ⟨k2,e1⟩:=bA_ok (fin_ok hk)
 rw [e1] at hk
 obtain ⟨k3,e1⟩:=bA_ok (fin_ok hk)
 rw [e1] at hk
 obtain ⟨k4,e1⟩:=bA_ok (fin_ok hk)
 rw [e1] at hk
 obtain ⟨q,hq,e1⟩:=oF_ok (fin_ok hk)
 rw [e1] at hk
 unfold rangeB at hk
 obtain ⟨k5,e1⟩:=bA_ok (fin_ok hk)
 rw [e1] at hk
 obtain ⟨k6,e1⟩:=isT_ok (fin_ok hk)
 rw [e1] at hk
 obtain ⟨k7,e1⟩:=rowOf_ok (fin_ok hk)
 rw [e1] at hk
 obtain ⟨k8,e1⟩:=bA_ok (fin_ok hk)
 rw [e1,cellF_get] at hk
 have hps2:ps.size = 2:=Nat.eq_of_beq_eq_true k2
 have hps:ps = #[ps.getD 0 0,ps.getD 1 0]:=by
  apply Array.ext
  ·simp [hps2]
  ·intro i h1 h2
   have:i = 0 ∨ i = 1:=by omega
   rcases this with rfl | rfl <;> simp [hps2]
 generalize ps.getD 0 0 = p0 at *
 generalize ps.getD 1 0 = p1 at *
 subst hps
 obtain ⟨j1,j2⟩:=bK_t k5
 obtain ⟨j4,j3⟩:=bK_t j2
 obtain ⟨s,agg⟩:=q
 have h1:agg = false → 0 < s:=fun c => by subst c;exact bltE j3
 obtain ⟨f1,f2,hu,r1,r2⟩:=VR_10 hv k1
 rw [nilL_eq j1] at r1
 have hf1:f1 = #[]:=by
  cases hf:f1.toList with
  | nil => exact Array.toList_eq_nil_iff.1 hf
  | cons z l => rw [hf] at r1;exact r1.elim
 have jl:F.4.5.length = 1:=by
  have:=Nat.eq_of_beq_eq_true j4
  rwa [len_eq] at this
 obtain ⟨uc,hf2,rc⟩:=VRs_one r2 jl
 have hf2:f2 = #[uc]:=by rw [← Array.toArray_toList (xs:=f2),hf2]
 subst hf1
 subst hf2
 generalize nth F.4.5 0 = c at *
 obtain ⟨pl,hp,huc⟩:=VR_3 rc k6
 obtain ⟨fn,ts,te,ti,tb,ty,b1,b2,b3,b4,b5,b6,b7,b8⟩:=hbk F.2 ⟨s,agg⟩ hq
 obtain ⟨_,_,_,hcell,_⟩:=row_of hE hp k7
 obtain ⟨us,q1,_,q3⟩:=hcell c.3 (bltE k8)
 -- how many there are
 have hm:∃ (m:Nat) (A:Option Addr) (cap:Nat),us = .slice A m cap ∧ m ≤ 9223372036854775807 ∧ backL fx fy p0 p1 agg s cx c T m h n = .fin e T' h' n':=by
  rcases slK_ok (fin_ok hk) with ⟨s1,s2⟩ | ⟨s1,s2,s3⟩
  ·rw [s2] at hk
   obtain ⟨s3,s4⟩:=bA_ok (fin_ok hk)
   rw [s4] at hk
   obtain ⟨_,A,cap,_,hus,_⟩:=VR_4 q3 s1
   have s5:((hget h c.2).4.get c.3).4.1 < 9223372036854775808:=bltE s3
   exact ⟨_,some A,cap,hus,by omega,hk⟩
  ·rw [s3] at hk
   have hus:=VR_6 q3 s1
   rw [s2] at hus
   exact ⟨0,none,0,hus,by omega,hk⟩
 obtain ⟨m,A,cap,hus,hmb,hbl⟩:=hm
 clear hk
 refine wpIn_rangeFunc fun fnid _ => ?_
 obtain ⟨W1,hW1⟩:∃ W1,(w.alloc (.deferred (some []))).alloc (.loop (recL fnid a #[p0,p1] x y w.heap.size .ready none)) = W1:=⟨_,rfl⟩
 have hol:∀ B,B < w.heap.size → W1.heap[B]? = w.heap[B]?:=fun B hB => by rw [← hW1];exact alloc2_old w _ _ B hB
 have hsz:W1.heap.size = w.heap.size + 2:=by rw [← hW1];simp
 have hrc:W1.heap[w.heap.size + 1]? = some (.loop (recL fnid a #[p0,p1] x y w.heap.size .ready none)):=by
  rw [← hW1]
  have:=heap_alloc_new (w.alloc (.deferred (some []))) (.loop (recL fnid a #[p0,p1] x y w.heap.size .ready none))
  simpa using this
 have hmd:W1.heap[w.heap.size]? = some (.deferred (some [])):=by
  rw [← hW1,heap_alloc_old _ _ _ (by simp)]
  exact heap_alloc_new w _
 have hBt:Bt P.globals.size cx.1 (w.heap.size + 1) w.heap.size fnid a #[p0,p1] x y ρ h n w .ready none ρ h n W1:=by
  refine ⟨hE.keep (by omega) fun b pl _ _ hb => hol _ (hE.bd b pl hb).2,⟨Rho.le_refl _,Nat.le_refl _,by rw [← hW1];rfl,by rw [← hW1];rfl,by rw [← hW1];rfl,by omega,fun B hB _ => hol B hB,fun b pl h1 h2 h3 h4 _ => ⟨b,pl,h1,h2,h3,h4,rfl⟩,fun _ _ => rfl,fun _ _ h => h,fun _ _ h => h⟩,
   hrc,hmd,fun b pl _ _ hb => ?_,fun b pl _ _ hb => ?_⟩
  ·have:=(hE.bd b pl hb).2
   omega
  ·have:=(hE.bd b pl hb).2
   omega
 refine ⟨w.heap.size + 1,[{ target:=.collected w.heap.size,args:=#[] }],W1,{ target:=.fn (.func F.2) #[uc],args:=#[.func (.yield (w.heap.size + 1)) #[] #[]] },W1,F.2,#[.func (.yield (w.heap.size + 1)) #[] #[],uc],W1,?_,?_,fun _ _ => trivial,?_,fun hh => by simp [FR] at hh,?_⟩
 ·have:=run_enterLoop_outer (P:=P) (w:=w) fnid a.tmps #[p0,p1] x y
  rw [← hW1]
  exact this
 ·simp only [resolve,hu]
  simp [Deferred.ofValue,Act.eval]
 ·have:=run_callFunc_body (P:=P) b1 b5 b2 #[.func (.yield (w.heap.size + 1)) #[] #[],uc] W1
  simpa [invoke] using this
 ·refine (callsIn_of_wp (F:=FR none) (n:=0) (R:=fun e2 W2 => (∃ v,e2 = .returned v) ∧ T' = T ∧ ∃ ρ',Bt P.globals.size cx.1 (w.heap.size + 1) w.heap.size fnid a #[p0,p1] x y ρ h n w (if (jmp e).isNone then .ready else .done) (jmp e) ρ' h' n' W2) b1 b2 trivial ?_).mono ?_
  ·exact back_body b2 b3 b4 b6 b7 b8 h1 hx hy fx0 fy0 hI (bltE k3) (bltE k4) hm0 hm1 (by omega) (by omega) k6 huc rc hA hBt hus hmb hbl ((cell?_heap (hol pl.B (hE.bd _ _ hp).2) _).trans q1)
  ·rintro e2 W2 ⟨⟨v,rfl⟩,hT,ρ',hB2⟩
   have hnb:(if (jmp e).isNone then LoopState.ready else .done) ≠ .busy:=by cases e <;> simp [jmp]
   refine ⟨jmp e,_,run_endLoop hB2.rc hnb,?_⟩
   have hB3:Bt P.globals.size cx.1 (w.heap.size + 1) w.heap.size fnid a #[p0,p1] x y ρ h n w .exhausted (jmp e) ρ' h' n' (W2.putObj (w.heap.size + 1) (.loop (recL fnid a #[p0,p1] x y w.heap.size .exhausted (jmp e)))):=hB2.turn (by omega) (by omega)
   have hdf:Df lo ρ' h' n' (W2.putObj (w.heap.size + 1) (.loop (recL fnid a #[p0,p1] x y w.heap.size .exhausted (jmp e)))) ({ target:=.collected w.heap.size,args:=#[] } :: a.defers):=by
    have hd:=hD.step hE hB3.sp
    refine ⟨fun d hd' => ?_,List.nodup_cons.2 ⟨fun hmem => ?_,hd.nd⟩⟩
    ·rcases List.mem_cons.1 hd' with rfl | hd'
     ·exact ⟨w.heap.size,rfl,hlo,hB3.md,hB3.ad⟩
     ·exact hd.al d hd'
    ·obtain ⟨D',e',_,hw,_⟩:=hD.al _ hmem
     have:D' < w.heap.size:=(Array.getElem?_eq_some_iff.1 hw).1
     have e':w.heap.size = D':=by injection e' with e1;injection e1
     omega
   have post:∀ e',exR e e' → Post P.globals.size cx.1 nt lc lo ρ h n w e T' h' n' e' { a with defers:=[{ target:=.collected w.heap.size,args:=#[] }] ++ a.defers } (W2.putObj (w.heap.size + 1) (.loop (recL fnid a #[p0,p1] x y w.heap.size .exhausted (jmp e)))):=fun e' he => by
    subst hT
    have hA':=hA.mono hB3.sp.ext
    exact ⟨he,ρ',⟨⟨hA'.sz0,hA'.le,hA'.tm⟩,hA'.lo⟩,hdf,hB3.em,hB3.sp⟩
   cases e with
   | normal => exact post _ trivial
   | exit i => exact wpIn_exit (post _ rfl)
   | ret => exact wpIn_ret (post _ trivial)
end EV
end
noncomputable section
namespace EV
open Go
variable {P:Program} {g:Nat}
def numP (g i:Nat) (p:PB):Nat:=bK (Nat.beq p.2 (nat_lit 1)) p.3 (Nat.add g i)
def numsP (g:Nat) (ab:List PB):Nat → List FB → (List FB → Ans) → Ans:=
 List.rec (motive:=fun _ => Nat → List FB → (List FB → Ans) → Ans) (fun _ fs k => k fs)
  (fun p _ ih i fs k => fT (numP g i p) fun b => fT (Nat.succ i) fun i => ih i (⟨b,(nat_lit 0),[],[]⟩ :: fs) k) ab
def renK (fs:List FB) (m:Nat) (v:AV) (k:AV → Ans):Ans:=
 bA (isPt v.1) (fT (nthF fs (Nat.sub (Nat.sub m (nat_lit 1)) v.2)).1 fun b => fT (Nat.add (nthF fs (Nat.sub (Nat.sub m (nat_lit 1)) v.2)).2 v.3) fun o => k ⟨v.1,b,o,v.4⟩) (k v)
def rensK (fs:List FB) (m:Nat) (l:List AV):(List AV → Ans) → Ans:=
 List.rec (motive:=fun _ => (List AV → Ans) → Ans) (fun k => k []) (fun x _ ih k => renK fs m x fun x => ih fun l => k (x :: l)) l
def renVK (fs:List FB) (m:Nat) (v:AV) (k:AV → Ans):Ans:=
 bA (Nat.beq v.1 (nat_lit 7)) (rensK fs m v.4.4 fun l => k (mAgg l)) (renK fs m v k)
def renVsK (fs:List FB) (m:Nat) (l:List AV):(List AV → Ans) → Ans:=
 List.rec (motive:=fun _ => (List AV → Ans) → Ans) (fun k => k []) (fun x _ ih k => renVK fs m x fun x => ih fun l => k (x :: l)) l
def heapP (g:Nat) (fs:List FB) (m:Nat) (ab:List PB):Nat → Heap → (Heap → Ans) → Ans:=
 List.rec (motive:=fun _ => Nat → Heap → (Heap → Ans) → Ans) (fun _ h k => k h)
  (fun p _ ih i h k => rensK fs m p.4 fun cs => bA (Nat.ble (len cs) (nat_lit 32768)) (setN cs (nat_lit 0) cells0 fun c => fT (numP g i p) fun b => bA (Nat.blt b (nat_lit 262144))
   ((heapF b).2 ⟨(nat_lit 2),p.1,len cs,c,[],(nat_lit 1)⟩ h fun h => fT (Nat.succ i) fun i => ih i h k) (.fail 111)) (.fail 112)) ab
def apartB (b:Nat) (l:List FB):Bool:=List.rec (motive:=fun _ => Bool) true (fun x _ ih => bK (Nat.beq x.1 b) false ih) l
def distB (l:List FB):Bool:=List.rec (motive:=fun _ => Bool) true (fun x l ih => bK (apartB x.1 l) ih false) l
def newB (h:Heap) (n:Nat) (l:List FB):Bool:=
 List.rec (motive:=fun _ => Bool) true (fun x _ ih => bK (Nat.ble n x.1) (bK (Nat.beq x.2 (nat_lit 0)) (bK (Nat.beq ((heapF x.1).1 h).1 (nat_lit 1)) (bK (Nat.beq ((heapF x.1).1 h).6 (nat_lit 0)) (bK (Nat.beq ((heapF x.1).1 h).3 (len x.4)) ih false) false) false) false) false) l
def wfB (g:Nat) (E:Ent):Bool:=bK (okVsB (len E.2) E.1) (bK (okPB g (len E.2) E.2) (bK (okVsB (len E.4) E.3) (okPB (nat_lit 0) (len E.4) E.4) false) false) false
def resL (r:List AV) (v:AV):List AV:=bK (Nat.beq (len r) (nat_lit 1)) [v] (bK (Nat.beq v.1 (nat_lit 8)) v.4.4 (undefA :: r))
def hasBody (P:Program) (f:FuncId):Bool:=oK false P.funcs[f]? fun fn => bK (plainName fn.name) (Bool.not (isNoneB fn.body)) false
def runE (P:Program) (H:Nat → HE) (bk:Nat → Option (P2 Nat Bool)) (fuel g:Nat) (f:FuncId) (E:Ent):Ans:=
 bA (bK (wfB g E) (hasBody P f) false) (numsP g E.2 (nat_lit 0) [] fun fs => bA (distB fs) (fT (len E.2) fun m => heapP g fs m E.2 (nat_lit 0) heap0 fun h => renVsK fs m E.1 fun vs => fT (Nat.add g m) fun n => bA (Nat.ble n (nat_lit 262144))
  ((fnF P H f).1 ⟨n,ev P bk H fuel⟩ vs h n fun v h n' => matchP E.3 E.4 (resL E.3 v) h n' (.fail 113) fun fs => bA (newB h n fs) (bA (distB fs) (.fin .normal tmps0 h n') (.fail 114)) (.fail 115)) (.fail 116)) (.fail 117)) (.fail 118)
theorem renK_eq (fs:List FB) (m:Nat) (v:AV) (k:AV → Ans):renK fs m v k = k (ren0 fs m v):=by
 unfold renK ren0
 cases isPt v.1 with
 | true =>
  change (fT (nthF fs (Nat.sub (Nat.sub m (nat_lit 1)) v.2)).1 fun b => fT (Nat.add (nthF fs (Nat.sub (Nat.sub m (nat_lit 1)) v.2)).2 v.3) fun o => k ⟨v.1,b,o,v.4⟩) = _
  rw [fT_eq,fT_eq]
  rfl
 | false => rfl
theorem rensK_eq (fs:List FB) (m:Nat):∀ (l:List AV) (k:List AV → Ans),rensK fs m l k = k (l.map (ren0 fs m))
 | [],k => rfl
 | x :: l,k => by
  have e:rensK fs m (x :: l) k = renK fs m x fun x => rensK fs m l fun l => k (x :: l):=rfl
  rw [e,renK_eq,rensK_eq fs m l]
  rfl
def renV (fs:List FB) (m:Nat) (v:AV):AV:=bK (Nat.beq v.1 7) (mAgg (v.4.4.map (ren0 fs m))) (ren0 fs m v)
theorem renVK_eq (fs:List FB) (m:Nat) (v:AV) (k:AV → Ans):renVK fs m v k = k (renV fs m v):=by
 unfold renVK renV
 cases Nat.beq v.1 7 with
 | true => exact rensK_eq fs m v.4.4 fun l => k (mAgg l)
 | false => exact renK_eq fs m v k
theorem renVsK_eq (fs:List FB) (m:Nat):∀ (l:List AV) (k:List AV → Ans),renVsK fs m l k = k (l.map (renV fs m))
 | [],k => rfl
 | x :: l,k => by
  have e:renVsK fs m (x :: l) k = renVK fs m x fun x => renVsK fs m l fun l => k (x :: l):=rfl
  rw [e,renVK_eq,renVsK_eq fs m l]
  rfl
theorem numsP_ok {g:Nat}:∀ (ab:List PB) (i:Nat) (fs:List FB) (k:List FB → Ans),∃ fs',numsP g ab i fs k = k fs' ∧ fs'.length = fs.length + ab.length ∧ (∀ j,j < fs.length → fs'[fs'.length - 1 - j]? = fs[fs.length - 1 - j]?) ∧
  ∀ (a:Nat) (p:PB),ab[a]? = some p → fs'[fs'.length - 1 - (fs.length + a)]? = some ⟨numP g (i + a) p,0,[],[]⟩
 | [],i,fs,k => ⟨fs,rfl,by simp,fun _ _ => rfl,fun a p hp => by simp at hp⟩
 | p :: ab,i,fs,k => by
  have e:numsP g (p :: ab) i fs k = fT (numP g i p) fun b => fT (Nat.succ i) fun i => numsP g ab i (⟨b,(nat_lit 0),[],[]⟩ :: fs) k:=rfl
  rw [e,fT_eq,fT_eq]
  obtain ⟨fs',e2,q1,q2,q3⟩:=numsP_ok (g:=g) ab (i + 1) (⟨numP g i p,0,[],[]⟩ :: fs) k
  simp only [List.length_cons] at q1 q2 q3
  refine ⟨fs',e2,by simp only [List.length_cons];omega,fun j hj => ?_,fun a q hq => ?_⟩
  ·rw [q2 j (by omega)]
   have:fs.length + 1 - 1 - j = (fs.length - 1 - j) + 1:=by omega
   rw [this]
   simp
  ·cases a with
   | zero =>
    simp at hq
    subst hq
    have:=q2 fs.length (by omega)
    rw [show fs.length + 1 - 1 - fs.length = 0 by omega] at this
    simpa using this
   | succ a =>
    have:=q3 a q (by simpa using hq)
    rw [show fs.length + (a + 1) = fs.length + 1 + a by omega,show i + (a + 1) = i + 1 + a by omega]
    exact this
theorem apartB_mem {b:Nat}:∀ {l:List FB},apartB b l = true → ∀ x ∈ l,x.1 ≠ b
 | [],_,x,h => by simp at h
 | y :: l,h,x,hx => by
  have h:bK (Nat.beq y.1 b) false (apartB b l) = true:=h
  by_cases e:y.1 = b
  ·rw [nbT e] at h;cases h
  ·rw [nbF e] at h
   rcases List.mem_cons.1 hx with rfl | hx
   ·exact e
   ·exact apartB_mem h x hx
theorem distB_get:∀ {l:List FB},distB l = true → ∀ (i j:Nat) (x y:FB),i ≠ j → l[i]? = some x → l[j]? = some y → x.1 ≠ y.1
 | [],_,i,j,x,y,_,h,_ => by simp at h
 | z :: l,h,i,j,x,y,hij,hx,hy => by
  obtain ⟨h1,h2⟩:=bK_t (show bK (apartB z.1 l) (distB l) false = true from h)
  cases i with
  | zero =>
   simp at hx
   subst hx
   cases j with
   | zero => exact absurd rfl hij
   | succ j => exact (apartB_mem h1 y (List.mem_of_getElem? (by simpa using hy))).symm
  | succ i =>
   cases j with
   | zero =>
    simp at hy
    subst hy
    exact apartB_mem h1 x (List.mem_of_getElem? (by simpa using hx))
   | succ j => exact distB_get h2 i j x y (by omega) (by simpa using hx) (by simpa using hy)
theorem newB_mem {h:Heap} {n:Nat}:∀ {l:List FB},newB h n l = true → ∀ x ∈ l,n ≤ x.1 ∧ x.2 = 0 ∧ (hget h x.1).1 = 1 ∧ (hget h x.1).6 = 0 ∧ (hget h x.1).3 = x.4.length
 | [],_,x,h => by simp at h
 | y :: l,hh,x,hx => by
  have hh:bK (Nat.ble n y.1) (bK (Nat.beq y.2 (nat_lit 0)) (bK (Nat.beq ((heapF y.1).1 h).1 (nat_lit 1)) (bK (Nat.beq ((heapF y.1).1 h).6 (nat_lit 0)) (bK (Nat.beq ((heapF y.1).1 h).3 (len y.4)) (newB h n l) false) false) false) false) false = true:=hh
  rw [heapF_get,len_eq] at hh
  obtain ⟨h1,hh⟩:=bK_t hh
  obtain ⟨h2,hh⟩:=bK_t hh
  obtain ⟨h3,hh⟩:=bK_t hh
  obtain ⟨h4,hh⟩:=bK_t hh
  obtain ⟨h5,hh⟩:=bK_t hh
  rcases List.mem_cons.1 hx with rfl | hx
  ·exact ⟨Nat.le_of_ble_eq_true h1,Nat.eq_of_beq_eq_true h2,Nat.eq_of_beq_eq_true h3,Nat.eq_of_beq_eq_true h4,Nat.eq_of_beq_eq_true h5⟩
  ·exact newB_mem hh x hx
theorem wfB_ok {g:Nat} {E:Ent} (h:wfB g E = true):WfE g E:=by
 unfold wfB at h
 rw [len_eq,len_eq] at h
 obtain ⟨h1,h⟩:=bK_t h
 obtain ⟨h2,h⟩:=bK_t h
 obtain ⟨h3,h4⟩:=bK_t h
 exact ⟨okVsB_mem h1,okPB_mem h2,okVsB_mem h3,fun p hp => (okPB_mem h4 p hp).1⟩
def heapPl (g:Nat) (fs:List FB) (m:Nat):List PB → Nat → Heap → Heap
 | [],_,h => h
 | p :: ab,i,h => heapPl g fs m ab (i + 1) (hset h (numP g i p) ⟨2,p.1,(p.4.map (ren0 fs m)).length,setL (p.4.map (ren0 fs m)) 0 cells0,[],1⟩)
theorem heapP_ok {g:Nat} {fs:List FB} {m:Nat}:∀ {ab:List PB} {i:Nat} {h:Heap} {k:Heap → Ans},(heapP g fs m ab i h k).ok → heapP g fs m ab i h k = k (heapPl g fs m ab i h) ∧ ∀ (a:Nat) (p:PB),ab[a]? = some p → p.4.length ≤ maxCells ∧ numP g (i + a) p < maxBlocks
 | [],i,h,k,_ => ⟨rfl,fun a p hp => by simp at hp⟩
 | p :: ab,i,h,k,hk => by
  have e:heapP g fs m (p :: ab) i h k = rensK fs m p.4 fun cs => bA (Nat.ble (len cs) (nat_lit 32768)) (setN cs (nat_lit 0) cells0 fun c => fT (numP g i p) fun b => bA (Nat.blt b (nat_lit 262144))
   ((heapF b).2 ⟨(nat_lit 2),p.1,len cs,c,[],(nat_lit 1)⟩ h fun h => fT (Nat.succ i) fun i => heapP g fs m ab i h k) (.fail 111)) (.fail 112):=rfl
  rw [e,rensK_eq,len_eq] at hk ⊢
  obtain ⟨h1,e2⟩:=bA_ok hk
  rw [e2,setN_eq,fT_eq] at hk ⊢
  obtain ⟨h2,e3⟩:=bA_ok hk
  rw [e3,heapF_put,fT_eq] at hk ⊢
  obtain ⟨e4,h3⟩:=heapP_ok hk
  refine ⟨e4,fun a q hq => ?_⟩
  cases a with
  | zero =>
   simp at hq
   subst hq
   exact ⟨by have:=Nat.le_of_ble_eq_true h1;rw [List.length_map] at this;exact this,bltE h2⟩
  | succ a =>
   have:=h3 a q (by simpa using hq)
   rwa [show i + 1 + a = i + (a + 1) by omega] at this
end EV
end
noncomputable section
namespace EV
open Go
variable {P:Program} {g:Nat}
theorem hasBody_ok {f:FuncId} (h:hasBody P f = true):∃ fn c,P.funcs[f]? = some fn ∧ fn.body = some c ∧ plainName fn.name = true:=by
 unfold hasBody at h
 cases hf:P.funcs[f]? with
 | none => rw [hf] at h;cases h
 | some fn =>
  rw [hf] at h
  obtain ⟨h1,h2⟩:=bK_t (show bK (plainName fn.name) (Bool.not (isNoneB fn.body)) false = true from h)
  cases hb:fn.body with
  | none => rw [hb] at h2;cases h2
  | some c => exact ⟨fn,c,rfl,hb,h1⟩
theorem heapPl_get {g:Nat} {fs:List FB} {m:Nat}:∀ (ab:List PB) (i:Nat) (h:Heap) (b:Nat),b < maxBlocks → (∀ (a:Nat) (p:PB),ab[a]? = some p → numP g (i + a) p < maxBlocks) →
  (∀ (a a':Nat) (p p':PB),a ≠ a' → ab[a]? = some p → ab[a']? = some p' → numP g (i + a) p ≠ numP g (i + a') p') →
  (∀ (a:Nat) (p:PB),ab[a]? = some p → numP g (i + a) p = b → hget (heapPl g fs m ab i h) b = ⟨2,p.1,(p.4.map (ren0 fs m)).length,setL (p.4.map (ren0 fs m)) 0 cells0,[],1⟩) ∧
  ((∀ (a:Nat) (p:PB),ab[a]? = some p → numP g (i + a) p ≠ b) → hget (heapPl g fs m ab i h) b = hget h b)
 | [],i,h,b,_,_,_ => ⟨fun a p hp => by simp at hp,fun _ => rfl⟩
 | p :: ab,i,h,b,hb,hmx,hd => by
  have hs:=hget_hset h (numP g i p) b ⟨2,p.1,(p.4.map (ren0 fs m)).length,setL (p.4.map (ren0 fs m)) 0 cells0,[],1⟩ (hmx 0 p rfl) hb
  obtain ⟨q1,q2⟩:=heapPl_get (g:=g) (fs:=fs) (m:=m) ab (i + 1) (hset h (numP g i p) ⟨2,p.1,(p.4.map (ren0 fs m)).length,setL (p.4.map (ren0 fs m)) 0 cells0,[],1⟩) b hb
   (fun a q hq => by have:=hmx (a + 1) q (by simpa using hq);rwa [show i + (a + 1) = i + 1 + a by omega] at this)
   (fun a a' q q' hne hq hq' => by have:=hd (a + 1) (a' + 1) q q' (by omega) (by simpa using hq) (by simpa using hq');rwa [show i + (a + 1) = i + 1 + a by omega,show i + (a' + 1) = i + 1 + a' by omega] at this)
  refine ⟨fun a q hq hb' => ?_,fun hno => ?_⟩
  ·cases a with
   | zero =>
    simp at hq
    subst hq
    have hb':numP g i p = b:=hb'
    change hget (heapPl g fs m ab (i + 1) _) b = _
    rw [q2 fun a q hq e => hd 0 (a + 1) p q (by omega) rfl (by simpa using hq) (by rw [show i + (a + 1) = i + 1 + a by omega,e];exact hb'),hs,if_pos hb'.symm]
   | succ a => exact q1 a q (by simpa using hq) (by rw [show i + 1 + a = i + (a + 1) by omega];exact hb')
  ·change hget (heapPl g fs m ab (i + 1) _) b = _
   rw [q2 fun a q hq e => hno (a + 1) q (by simpa using hq) (by rw [show i + (a + 1) = i + 1 + a by omega];exact e),hs,if_neg fun e => hno 0 p rfl e.symm]
section
variable {fs:List FB} {m:Nat} {ρr:Rho} {pls:List Pl}
theorem ren_leaf (hnum:∀ b,b < m → ∃ x,fs[m - 1 - b]? = some x ∧ x.2 = 0 ∧ ρr x.1 = pls[b]?) {v:AV} {u:Value} (hv:lfB m v = true) (hu:VR (rhoL pls) v u):VR ρr (ren0 fs m v) u:=by
 unfold ren0
 rcases lfB_cases hv with ⟨hp,hlt⟩ | ⟨hp,ht⟩
 ·rw [hp]
  obtain ⟨x,x1,x2,x3⟩:=hnum v.2 hlt
  have e2:nthF fs (Nat.sub (Nat.sub m 1) v.2) = x:=nthF_get x1
  have hsome:∃ pl,rhoL pls v.2 = some pl:=by
   rcases isPt_tag hp with h | h
   ·obtain ⟨pl,q,_⟩:=VR_3 hu h;exact ⟨pl,q⟩
   ·obtain ⟨pl,_,_,q,_⟩:=VR_4 hu h;exact ⟨pl,q⟩
  obtain ⟨pl,hpl⟩:=hsome
  rw [e2]
  change VR ρr ⟨v.1,x.1,x.2 + v.3,v.4⟩ u
  rw [x2]
  exact (VR_move (ρ:=ρr) (o:=0) (u:=u) hp (x3.trans hpl) hpl rfl rfl rfl).2 hu
 ·rw [hp]
  exact VR_leaf hp ht hu
theorem ren_leaves (hnum:∀ b,b < m → ∃ x,fs[m - 1 - b]? = some x ∧ x.2 = 0 ∧ ρr x.1 = pls[b]?):∀ {l:List AV} {us:List Value},(∀ x ∈ l,lfB m x = true) → VRs (rhoL pls) l us → VRs ρr (l.map (ren0 fs m)) us
 | [],[],_,_ => trivial
 | x :: l,u :: us,hok,hu => ⟨ren_leaf hnum (hok x (by simp)) hu.1,ren_leaves hnum (fun z hz => hok z (by simp [hz])) hu.2⟩
 | [],_ :: _,_,hu => hu.elim
 | _ :: _,[],_,hu => hu.elim
theorem ren_val (hnum:∀ b,b < m → ∃ x,fs[m - 1 - b]? = some x ∧ x.2 = 0 ∧ ρr x.1 = pls[b]?) {v:AV} {u:Value} (hv:okVB m v = true) (hu:VR (rhoL pls) v u):VR ρr (renV fs m v) u:=by
 unfold okVB at hv
 unfold renV
 by_cases h7:v.1 = 7
 ·rw [nbT h7] at hv ⊢
  have hv:lfsB m v.4.4 = true:=hv
  obtain ⟨cs,hc,q1,q2⟩:=VR_7 hu h7
  subst hc
  exact VR_mAgg (ren_leaves hnum (lfsB_mem hv) q1) q2
 ·rw [nbF h7] at hv ⊢
  have hv:lfB m v = true:=hv
  exact ren_leaf hnum hv hu
theorem ren_vals (hnum:∀ b,b < m → ∃ x,fs[m - 1 - b]? = some x ∧ x.2 = 0 ∧ ρr x.1 = pls[b]?):∀ {l:List AV} {us:List Value},(∀ x ∈ l,okVB m x = true) → VRs (rhoL pls) l us → VRs ρr (l.map (renV fs m)) us
 | [],[],_,_ => trivial
 | x :: l,u :: us,hok,hu => ⟨ren_val hnum (hok x (by simp)) hu.1,ren_vals hnum (fun z hz => hok z (by simp [hz])) hu.2⟩
 | [],_ :: _,_,hu => hu.elim
 | _ :: _,[],_,hu => hu.elim
theorem ren_block (hnum:∀ b,b < m → ∃ x,fs[m - 1 - b]? = some x ∧ x.2 = 0 ∧ ρr x.1 = pls[b]?) {p:PB} {pl:Pl} {w:World} (hok:lfsB m p.4 = true) (hO:OW (rhoL pls) (pbAO 2 1 p) pl w) :
  OW ρr ⟨2,p.1,(p.4.map (ren0 fs m)).length,setL (p.4.map (ren0 fs m)) 0 cells0,[],1⟩ pl w:=by
 obtain ⟨o1,_,_⟩:=hO
 obtain ⟨a1,a2,a3,a4,a5,a6⟩:=o1 rfl
 have a3:p.4.length ≤ pl.R:=a3
 have a4:p.4.length ≤ maxCells:=a4
 refine ⟨fun _ => ⟨fun c => (by cases c),a2,by simpa using a3,by simpa using a4,fun j hj => ?_,fun c => (by rcases c with c | c <;> cases c)⟩,fun c => (by cases c),fun c => (by cases c)⟩
 have hj:j < p.4.length:=by simpa using hj
 obtain ⟨u,u1,u2,u3⟩:=a5 j hj
 refine ⟨u,u1,u2,?_⟩
 have e1:(setL p.4 0 cells0).get j = p.4.getD j undefA:=by
  have:=setL_get p.4 0 cells0 j (by omega) (by omega)
  rw [if_pos (by omega)] at this
  simpa using this
 have e2:(setL (p.4.map (ren0 fs m)) 0 cells0).get j = (p.4.map (ren0 fs m)).getD j undefA:=by
  have:=setL_get (p.4.map (ren0 fs m)) 0 cells0 j (by simpa using a4) (by omega)
  rw [if_pos (by simp;omega)] at this
  simpa using this
 obtain ⟨z,hz⟩:∃ z,p.4[j]? = some z:=⟨p.4[j],by simp [hj]⟩
 have u3:VR (rhoL pls) ((setL p.4 0 cells0).get j) u:=u3
 have e3:p.4.getD j undefA = z:=by rw [List.getD_eq_getElem?_getD,hz];rfl
 rw [e1,e3] at u3
 change VR ρr ((setL (p.4.map (ren0 fs m)) 0 cells0).get j) u
 have e4:(p.4.map (ren0 fs m)).getD j undefA = ren0 fs m z:=by rw [List.getD_eq_getElem?_getD,List.getElem?_map,hz];rfl
 rw [e2,e4]
 exact ren_leaf hnum (lfsB_mem hok z (List.mem_of_getElem? hz)) u3
end
theorem resL_ok {ρ:Rho} {r:List AV} {v:AV} {u:Value} (hl:r.length = (resL r v).length) (hu:VR ρ v u):∃ rs:List Value,u = (if h:rs.toArray.size = 1 then rs.toArray[0] else .tuple rs.toArray) ∧ VRs ρ (resL r v) rs:=by
 unfold resL at hl ⊢
 rw [len_eq] at hl ⊢
 by_cases h1:r.length = 1
 ·rw [nbT h1]
  exact ⟨[u],by simp,hu,trivial⟩
 ·rw [nbF h1] at hl ⊢
  change r.length = (bK (Nat.beq v.1 (nat_lit 8)) v.4.4 (undefA :: r)).length at hl
  change ∃ rs:List Value,_ ∧ VRs ρ (bK (Nat.beq v.1 (nat_lit 8)) v.4.4 (undefA :: r)) rs
  by_cases h8:v.1 = 8
  ·rw [nbT h8] at hl ⊢
   have hl:r.length = v.4.4.length:=hl
   obtain ⟨cs,rfl,h2⟩:=VR_8 hu h8
   have h3:=VRs_len h2
   refine ⟨cs.toList,?_,h2⟩
   have h4:¬ cs.size = 1:=by simp at h3;omega
   simp [h4]
  ·rw [nbF h8] at hl ⊢
   have hl:r.length = r.length + 1:=hl
   omega
theorem block_new {lk:Nat} {ρ:Rho} {h:Heap} {n:Nat} {w:World} {fs:List FB} {m:Nat} (hE:Emb g lk ρ h n w) (hm:fs.length = m) (hall:∀ i,i < m → ∃ x p,fs[m - 1 - i]? = some x ∧ Fnd h n p x) {p:PB} {x:FB} (hf:Fnd h n p x) (hok:lfsB m p.4 = true) (hfit:fits fs m p.4 x.3 = true)
  (hx0:x.2 = 0) (ht:(hget h x.1).1 = 1) (h6:(hget h x.1).6 = 0):OW (rhoL (plsOf ρ fs)) (pbAO 1 0 p) (plOf ρ x) w:=by
 obtain ⟨pl,q1,q2,_,_⟩:=found_place hE hf
 obtain ⟨_,_,_,_,a5⟩:=row_of hE q1 hf.row
 obtain ⟨o1,_,_⟩:=block_found hE hm hall hf hok hfit
 obtain ⟨_,a2,a3,a4,a5',_⟩:=o1 rfl
 rw [q2,hx0] at *
 have hpo:pl.o = 0:=by
  obtain ⟨q,r1,r2⟩:=hE.ob x.1 hf.lt (by rw [ht];decide)
  rw [q1] at r1
  cases r1
  exact (r2.1 hf.row).1 h6
 exact ⟨fun _ => ⟨fun _ => hpo,a2,a3,a4,a5',fun _ off hfr => a5 (.inl ht) off hfr⟩,fun c => (by cases c),fun c => (by cases c)⟩
end EV
end
noncomputable section
namespace EV
open Go
variable {P:Program}
open Classical in
def rhoR (g m:Nat) (fs:List FB) (pls:List Pl):Rho:=fun b =>
 if h:∃ i,i < m ∧ ∃ x,fs[m - 1 - i]? = some x ∧ x.1 = b then pls[h.choose]? else if b < g then some ⟨b,0,0⟩ else none
theorem ent_of_run {H:Nat → HE} {bk:Nat → Option (P2 Nat Bool)} {fuel:Nat} (hX:XOK P P.globals.size H) (hI:IHok P P.globals.size (ev P bk H fuel)) {f:FuncId} {E:Ent} (hk:(runE P H bk fuel P.globals.size f E).ok):EntOK P P.globals.size f E:=by
 generalize hgs:P.globals.size = g at *
 unfold runE at hk
 obtain ⟨k1,e1⟩:=bA_ok hk
 rw [e1] at hk
 obtain ⟨k1,k2⟩:=bK_t k1
 have hw:=wfB_ok k1
 obtain ⟨fn,c,hf,hb,hp⟩:=hasBody_ok k2
 refine ⟨hw,?_⟩
 obtain ⟨fs,e2,n1,_,n3⟩:=numsP_ok (g:=g) E.2 0 [] (fun fs => bA (distB fs) (fT (len E.2) fun m => heapP g fs m E.2 (nat_lit 0) heap0 fun h => renVsK fs m E.1 fun vs => fT (Nat.add g m) fun n => bA (Nat.ble n (nat_lit 262144))
  ((fnF P H f).1 ⟨n,ev P bk H fuel⟩ vs h n fun v h n' => matchP E.3 E.4 (resL E.3 v) h n' (.fail 113) fun fs => bA (newB h n fs) (bA (distB fs) (.fin .normal tmps0 h n') (.fail 114)) (.fail 115)) (.fail 116)) (.fail 117))
 rw [e2] at hk
 simp only [List.length_nil,Nat.zero_add] at n1 n3
 obtain ⟨k3,e3⟩:=bA_ok hk
 rw [e3,fT_eq,len_eq] at hk
 obtain ⟨e4,k4⟩:=heapP_ok hk
 rw [e4,renVsK_eq,fT_eq] at hk
 rw [show Nat.add g E.2.length = g + E.2.length from rfl] at hk
 obtain ⟨k5,e5⟩:=bA_ok hk
 rw [e5] at hk
 have k5:g + E.2.length ≤ maxBlocks:=Nat.le_of_ble_eq_true k5
 obtain ⟨v,h',n',e6,hrun⟩:=fnF_ok (g:=g) hX f ⟨g + E.2.length,ev P bk H fuel⟩ (E.1.map (renV fs E.2.length)) (heapPl g fs E.2.length E.2 0 heap0) (g + E.2.length) _ hI hk
 rw [e6] at hk
 -- the result
 unfold matchP at hk
 rcases findP_ok (vs:=resL E.3 v) (h:=h') (n:=n') (els:=Ans.fail 113)
  (k:=fun fs' => bA (fitVs fs' (len E.4) E.3 (resL E.3 v)) (bA (fitB fs' (len E.4) fs') (bA (newB h' (g + E.2.length) fs') (bA (distB fs') (.fin .normal tmps0 h' n') (.fail 114)) (.fail 115)) (.fail 113)) (.fail 113)) E.4 [] with e7 | ⟨fr,e7,r1,_,r3,r4⟩
 ·rw [show findP (resL E.3 v) h' n' (Ans.fail 113) E.4 [] (fun fs' => bA (fitVs fs' (len E.4) E.3 (resL E.3 v)) (bA (fitB fs' (len E.4) fs') (bA (newB h' (g + E.2.length) fs') (bA (distB fs') (.fin .normal tmps0 h' n') (.fail 114)) (.fail 115)) (.fail 113)) (.fail 113)) = Ans.fail 113 from e7] at hk
  exact hk.elim
 rw [show findP (resL E.3 v) h' n' (Ans.fail 113) E.4 [] (fun fs' => bA (fitVs fs' (len E.4) E.3 (resL E.3 v)) (bA (fitB fs' (len E.4) fs') (bA (newB h' (g + E.2.length) fs') (bA (distB fs') (.fin .normal tmps0 h' n') (.fail 114)) (.fail 115)) (.fail 113)) (.fail 113)) = _ from e7] at hk
 simp only [List.length_nil,Nat.zero_add] at r1 r3
 obtain ⟨f1,e8⟩:=bA_ok hk
 rw [e8] at hk
 obtain ⟨f2,e8⟩:=bA_ok hk
 rw [e8] at hk
 obtain ⟨f3,e8⟩:=bA_ok hk
 rw [e8] at hk
 obtain ⟨f4,_⟩:=bA_ok hk
 rw [len_eq] at f1 f2
 clear hk e1 e2 e3 e4 e5 e6 e7 e8
 -- the numbers
 have hat:∀ i,i < E.2.length → ∃ p,E.2[i]? = some p ∧ fs[E.2.length - 1 - i]? = some ⟨numP g i p,0,[],[]⟩:=fun i hi => by
  refine ⟨E.2[i],by simp [hi],?_⟩
  have:=n3 i E.2[i] (by simp [hi])
  rwa [n1] at this
 have hnum:∀ i p,E.2[i]? = some p → numP g i p < g + E.2.length ∧ (numP g i p < g → p.2 = 1 ∧ p.3 = numP g i p):=fun i p hi => by
  have hil:i < E.2.length:=(List.getElem?_eq_some_iff.1 hi).1
  unfold numP
  by_cases h1:p.2 = 1
  ·rw [nbT h1]
   have:=(hw.ab p (List.mem_of_getElem? hi)).2 h1
   exact ⟨by change p.3 < _;omega,fun _ => ⟨h1,rfl⟩⟩
  ·rw [nbF h1]
   exact ⟨by change g + i < _;omega,fun hc => by have hc:g + i < g:=hc;omega⟩
 have hdist:∀ (i j:Nat) (p q:PB),i ≠ j → E.2[i]? = some p → E.2[j]? = some q → numP g i p ≠ numP g j q:=fun i j p q hij hi hj => by
  have hil:i < E.2.length:=(List.getElem?_eq_some_iff.1 hi).1
  have hjl:j < E.2.length:=(List.getElem?_eq_some_iff.1 hj).1
  obtain ⟨p',a1,a2⟩:=hat i hil
  obtain ⟨q',b1,b2⟩:=hat j hjl
  rw [hi] at a1
  rw [hj] at b1
  cases a1
  cases b1
  exact distB_get k3 _ _ _ _ (by omega) a2 b2
 intro w us pls hglob hlen hblk hargs
 have hrho:∀ i p,E.2[i]? = some p → rhoR g E.2.length fs pls (numP g i p) = pls[i]?:=fun i p hi => by
  have hil:i < E.2.length:=(List.getElem?_eq_some_iff.1 hi).1
  obtain ⟨p',a1,a2⟩:=hat i hil
  rw [hi] at a1
  cases a1
  have hex:∃ i',i' < E.2.length ∧ ∃ x,fs[E.2.length - 1 - i']? = some x ∧ x.1 = numP g i p:=⟨i,hil,_,a2,rfl⟩
  unfold rhoR
  rw [dif_pos hex]
  obtain ⟨c1,x,c2,c3⟩:=hex.choose_spec
  obtain ⟨q,d1,d2⟩:=hat hex.choose c1
  rw [d2] at c2
  cases c2
  by_cases he:hex.choose = i
  ·rw [he]
  ·exact absurd c3 (hdist _ _ _ _ he d1 hi)
 have hrno:∀ b,(∀ i p,E.2[i]? = some p → numP g i p ≠ b) → rhoR g E.2.length fs pls b = if b < g then some ⟨b,0,0⟩ else none:=fun b hno => by
  unfold rhoR
  rw [dif_neg]
  rintro ⟨i,hi,x,x1,x2⟩
  obtain ⟨q,d1,d2⟩:=hat i hi
  rw [d2] at x1
  cases x1
  exact hno i q d1 x2
 have hnm:∀ b,b < E.2.length → ∃ x,fs[E.2.length - 1 - b]? = some x ∧ x.2 = 0 ∧ rhoR g E.2.length fs pls x.1 = pls[b]?:=fun b hb => by
  obtain ⟨p,a1,a2⟩:=hat b hb
  exact ⟨_,a2,rfl,hrho b p a1⟩
 have hheap:=fun b (hb:b < maxBlocks) => heapPl_get (g:=g) (fs:=fs) (m:=E.2.length) E.2 0 heap0 b hb (fun a p ha => (k4 a p ha).2) (fun a a' p p' hne ha ha' => by rw [Nat.zero_add,Nat.zero_add];exact hdist a a' p p' hne ha ha')
 have dead0:∀ b,(hget heap0 b).1 = 0:=fun b => by unfold hget heap0;rw [getP_fill];rfl
 have hE:Emb g (g + E.2.length) (rhoR g E.2.length fs pls) (heapPl g fs E.2.length E.2 0 heap0) (g + E.2.length) w:=by
  refine ⟨k5,Nat.le_add_right _ _,Nat.le_refl _,fun b pl hb' => ?_,fun b hb' ht => ?_,fun b b' pl pl' h1 h2 => by omega,fun b hb' => ?_,fun b hb' hm => ?_,fun b b' pl pl' h1 h2 h3 => by omega⟩
  ·by_cases hx:∃ i p,E.2[i]? = some p ∧ numP g i p = b
   ·obtain ⟨i,p,hi,rfl⟩:=hx
    rw [hrho i p hi] at hb'
    obtain ⟨q,q1,q2,_⟩:=hblk i p hi
    rw [q1] at hb'
    cases hb'
    exact ⟨(hnum i p hi).1,q2⟩
   ·rw [hrno b fun i p hi he => hx ⟨i,p,hi,he⟩] at hb'
    by_cases hbg:b < g
    ·rw [if_pos hbg] at hb'
     cases hb'
     exact ⟨by omega,hglob b hbg⟩
    ·rw [if_neg hbg] at hb'
     cases hb'
  ·obtain ⟨g1,g2⟩:=hheap b (by omega)
   by_cases hx:∃ i p,E.2[i]? = some p ∧ numP g i p = b
   ·obtain ⟨i,p,hi,he⟩:=hx
    obtain ⟨q,q1,q2,q3,_⟩:=hblk i p hi
    refine ⟨q,by rw [← he,hrho i p hi];exact q1,?_⟩
    rw [g1 i p hi (by rw [Nat.zero_add];exact he)]
    exact ren_block hnm (hw.ab p (List.mem_of_getElem? hi)).1 q3
   ·rw [g2 fun a p ha he => hx ⟨a,p,ha,by rw [Nat.zero_add] at he;exact he⟩] at ht
    exact absurd (dead0 b) ht
  ·by_cases hx:∃ i p,E.2[i]? = some p ∧ numP g i p = b
   ·obtain ⟨i,p,hi,he⟩:=hx
    obtain ⟨q,q1,q2,_,q4⟩:=hblk i p hi
    obtain ⟨c1,c2⟩:=(hnum i p hi).2 (by omega)
    obtain ⟨d1,d2⟩:=q4 c1
    refine ⟨q.R,?_⟩
    rw [← he,hrho i p hi,q1,← c2,← d1]
    congr 1
    cases q
    simp only at d2
    rw [d2]
   ·exact ⟨0,by rw [hrno b fun i p hi he => hx ⟨i,p,hi,he⟩,if_pos hb']⟩
  ·obtain ⟨_,g2⟩:=hheap b hm
   rw [g2 fun a p ha he => by rw [Nat.zero_add] at he;have:=(hnum a p ha).1;omega]
   exact dead0 b
 have hA:VRs (rhoR g E.2.length fs pls) (E.1.map (renV fs E.2.length)) us.toList:=ren_vals hnm hw.as hargs
 rcases hrun _ us w hE hA with ⟨_,hcalls⟩ | ⟨u,_,_,hval,_⟩
 ·refine Calls.mono hcalls fun e w' hh => ?_
  obtain ⟨u,ρ',rfl,s1,s2,s3⟩:=hh
  have hall:∀ i,i < E.4.length → ∃ x p,fr[E.4.length - 1 - i]? = some x ∧ Fnd h' n' p x:=fun i hi => by
   obtain ⟨x,x1,x2⟩:=r3 i E.4[i] (by simp [hi])
   exact ⟨x,E.4[i],by rw [← r1];exact x1,x2⟩
  obtain ⟨rs,hrs,s1'⟩:=resL_ok (fitVs_get f1).1 s1
  subst hrs
  have old:∀ x ∈ fr,∀ pl,ρ' x.1 = some pl → w.heap.size ≤ pl.B:=fun x hx pl hpl => by
   obtain ⟨c1,_,c3,_⟩:=newB_mem f3 x hx
   rcases Nat.lt_or_ge pl.B w.heap.size with hlt | hge
   ·obtain ⟨b0,_,d1,d2,_⟩:=s3.own x.1 pl c1 (s2.bd _ _ hpl).1 (by rw [c3];decide) hpl hlt
    have d1:g + E.2.length ≤ b0:=d1
    omega
   ·exact hge
  refine ⟨rs,plsOf ρ' fr,rfl,vals_found s2 r1 hall hw.r f1 s1',by simp [plsOf,r1],fun i p hi => ?_,fun i j pl pl' hij hi hj => ?_,⟨s3.os,s3.tape,s3.output,s3.sz,fun B hB => s3.unt B hB fun b pl h1 h2 => by
   have h1:g + E.2.length ≤ b:=h1
   omega⟩⟩
  ·have hil:i < E.4.length:=(List.getElem?_eq_some_iff.1 hi).1
   obtain ⟨x,x1,x2⟩:=r3 i p hi
   obtain ⟨pl,p1,p2,_,p4⟩:=found_place s2 x2
   have hmem:=List.mem_of_getElem? x1
   obtain ⟨c1,c2,c3,c4,c5⟩:=newB_mem f3 x hmem
   have hfit:=fitB_mem f2 x hmem
   rw [x2.pc] at hfit
   refine ⟨plOf ρ' x,plsOf_get (by omega) x1,by rw [p2];exact old x hmem pl p1,by rw [p2];exact p4,block_new s2 r1 hall x2 (hw.rb p (List.mem_of_getElem? hi)) hfit c2 c3 c4⟩
  ·have hil:i < fr.length:=by have:=(List.getElem?_eq_some_iff.1 hi).1;simpa [plsOf] using this
   have hjl:j < fr.length:=by have:=(List.getElem?_eq_some_iff.1 hj).1;simpa [plsOf] using this
   obtain ⟨x,p,x1,x2⟩:=hall i (by omega)
   obtain ⟨y,q,y1,y2⟩:=hall j (by omega)
   rw [← r1] at x1 y1
   rw [plsOf_get hil x1] at hi
   rw [plsOf_get hjl y1] at hj
   cases hi
   cases hj
   obtain ⟨px,p1,p2,_⟩:=found_place s2 x2
   obtain ⟨py,q1,q2,_⟩:=found_place s2 y2
   obtain ⟨c1,_,c3,_⟩:=newB_mem f3 x (List.mem_of_getElem? x1)
   obtain ⟨_,_,d3,_⟩:=newB_mem f3 y (List.mem_of_getElem? y1)
   rw [p2,q2]
   exact s2.inj x.1 y.1 px py c1 x2.lt y2.lt (distB_get f4 _ _ x y (by omega) x1 y1) (by rw [c3];decide) (by rw [d3];decide) p1 q1 (fun e5 => by rw [c3] at e5;cases e5)
 ·rw [run_callFunc_body hf hp hb us w] at hval
  cases hval
end EV
end
noncomputable section
namespace EV
open Go
variable {P:Program}
def esOf (L:List (P2 Nat Ent)) (f:Nat):List Ent:=List.rec (motive:=fun _ => List Ent) [] (fun p _ ih => bK (Nat.beq p.1 f) (p.2 :: ih) ih) L
theorem esOf_mem {f:Nat} {E:Ent}:∀ {L:List (P2 Nat Ent)},E ∈ esOf L f → ∃ p ∈ L,p.1 = f ∧ p.2 = E
 | [],h => by
  have h:E ∈ ([]:List Ent):=h
  simp at h
 | p :: L,h => by
  have h:E ∈ bK (Nat.beq p.1 f) (p.2 :: esOf L f) (esOf L f):=h
  by_cases e:p.1 = f
  ·rw [nbT e] at h
   rcases List.mem_cons.1 h with c | c
   ·exact ⟨p,by simp,e,c.symm⟩
   ·obtain ⟨q,q1,q2⟩:=esOf_mem (L:=L) c
    exact ⟨q,by simp [q1],q2⟩
  ·rw [nbF e] at h
   obtain ⟨q,q1,q2⟩:=esOf_mem (L:=L) h
   exact ⟨q,by simp [q1],q2⟩
def hintOf (mk cd:Nat → Nat) (L:List (P2 Nat Ent)) (f:Nat):HE:=⟨Nat.add (Nat.mul (nat_lit 4) (mk f)) (cd f),esOf L f⟩
def Known (P:Program) (g:Nat) (L:List (P2 Nat Ent)):Prop:=∀ p ∈ L,EntOK P g p.1 p.2
theorem Known.nil {g:Nat}:Known P g []:=fun p hp => by simp at hp
structure Base (P:Program) (g:Nat) (mk cd:Nat → Nat) (bk:Nat → Option (P2 Nat Bool)):Prop where
 gs:P.globals.size = g
 mix:P.follows .mixedOrders = true
 bk:BkOK P bk
 c4:∀ f,cd f < 4
 x1:∀ f fn,cd f = 1 → P.funcs[f]? = some fn → fn.body = none → (fn.name == "runtime.NumGoroutine") = false ∧ Extern.findNext fn = none ∧ Extern.find fn = some Extern.BytealgIndexByte.indexByte
 x2:∀ f fn,cd f = 2 → P.funcs[f]? = some fn → fn.body = none → (fn.name == "runtime.NumGoroutine") = false ∧ Extern.findNext fn = none ∧ Extern.find fn = some Extern.AbiNoEscape.same
 x3:∀ f fn,cd f = 3 → P.funcs[f]? = some fn → fn.body = none → (fn.name == "runtime.NumGoroutine") = false ∧ Extern.findNext fn = none ∧ Extern.find fn = some Extern.BytealgCount.count
def isFin (a:Ans):Bool:=Ans.rec (motive:=fun _ => Bool) (fun _ => false) (fun _ _ _ _ => true) a
theorem isFin_ok {a:Ans} (h:isFin a = true):a.ok:=by
 cases a with
 | fail w => cases h
 | fin e T h n => trivial
theorem known {g:Nat} {mk cd:Nat → Nat} {bk:Nat → Option (P2 Nat Bool)} (hb:Base P g mk cd bk) {L:List (P2 Nat Ent)} (hL:Known P g L) {fuel:Nat} {f:FuncId} {E:Ent} (hk:isFin (runE P (hintOf mk cd L) bk fuel g f E) = true):EntOK P g f E:=by
 have hgs:=hb.gs
 have hc:∀ f,(hintOf mk cd L f).1 % 4 = cd f:=fun f => by
  have:=hb.c4 f
  change (4 * mk f + cd f) % 4 = cd f
  omega
 have hX:XOK P P.globals.size (hintOf mk cd L):=by
  refine ⟨fun f fn hf hbd h12 => ?_,fun f E hE => ?_⟩
  ·rw [hc] at h12
   rw [hc]
   rcases h12 with h1 | h2 | h3
   ·obtain ⟨a1,a2,a3⟩:=hb.x1 f fn h1 hf hbd
    exact ⟨a1,a2,fun _ => a3,fun c => (by rw [h1] at c;cases c),fun c => (by rw [h1] at c;cases c)⟩
   ·obtain ⟨a1,a2,a3⟩:=hb.x2 f fn h2 hf hbd
    exact ⟨a1,a2,fun c => (by rw [h2] at c;cases c),fun _ => a3,fun c => (by rw [h2] at c;cases c)⟩
   ·obtain ⟨a1,a2,a3⟩:=hb.x3 f fn h3 hf hbd
    exact ⟨a1,a2,fun c => (by rw [h3] at c;cases c),fun c => (by rw [h3] at c;cases c),fun _ => a3⟩
  ·obtain ⟨p,p1,p2,p3⟩:=esOf_mem hE
   have:=hL p p1
   rw [p2,p3] at this
   rw [hgs]
   exact this
 subst hgs
 exact ent_of_run hX (ev_ok (draw_all hb.mix) (ops_sound hX) (range_clause hb.bk) fuel) (isFin_ok hk)
end EV
end
