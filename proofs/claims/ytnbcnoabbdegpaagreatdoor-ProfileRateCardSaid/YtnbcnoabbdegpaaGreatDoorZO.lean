/- A part of the proof of the tied card of ProfileRate (chapter 53): the law returns true whatever the input. -/
import Derived.Test.YtnbcnoabbdegpaaGreatDoorZW
import Derived.WalkKit
import Derived.ProofKit
import Derived.OpenShut
import Derived.ShutString
import Derived.ChangeOld
import Derived.Below
import Derived.SizedLaws
import Derived.WideShapes
import Derived.ChangeArms
import Derived.DataReads
set_option linter.unusedVariables false
set_option linter.unusedSimpArgs false
namespace Go.Proofs.YtnbcnoabbdegpaaGreatDoor.O
open Go.RowKit Go.Proofs.YtnbcnoabbdegpaaGreatDoorW.PrintWords
set_option linter.unusedVariables false
structure Opens {α:Type} (P:Program) (t:TypeId) (d:Kd α) (ok:α → Prop):Prop where
 size:P.cellsOf t = d.sz
 opens:∀ {H:Type} {enc:TypeId × Value → H} {w:World} {base:Nat} {spare:Nat → Bool} {held:Bool} {fuel:Nat} {cs:List Value} {x:DataW H × List MemPlace},
  DataW.trod enc P w base spare held fuel t cs = some x → ∃ a,d.K w a cs ∧ ok a
theorem Opens.int {P:Program} {t:TypeId} {k:IntKind} (ht:P.underlying t = some (.int k)) (hs:P.cellsOf t = 1):Opens P t (Kd.int k) fun n => (Lit.int k n).wf = true:=
 ⟨hs,fun h => by obtain ⟨n,rfl,_,hw⟩:=DataW.trod_int ht h;exact ⟨n,rfl,hw⟩⟩
theorem Opens.string {P:Program} {t:TypeId} (ht:P.underlying t = some .string) (hs:P.cellsOf t = 1):Opens P t Kd.string fun s => s.size ≤ maxLen:=
 ⟨hs,fun h => by obtain ⟨n,rfl,_,hw⟩:=DataW.trod_string ht h;exact ⟨n,rfl,hw⟩⟩
theorem choose_list {α:Type} {p:Nat → α → Prop} (n:Nat) (h:∀ i,i < n → ∃ a,p i a):∃ l:List α,l.length = n ∧ ∀ i a,l[i]? = some a → p i a:=by
 induction n with
 | zero => exact ⟨[],rfl,fun i a hi => by simp at hi⟩
 | succ n ih =>
  obtain ⟨l,hl,hp⟩:=ih fun i hi => h i (by omega)
  obtain ⟨a,ha⟩:=h n (by omega)
  refine ⟨l ++ [a],by simp [hl],fun i b hb => ?_⟩
  rw [List.getElem?_append] at hb
  split at hb
  ·exact hp i b hb
  ·rename_i hge
   have hi:i - l.length = 0:=by
    have:=(List.getElem?_eq_some_iff.1 hb).1
    simp at this;omega
   rw [hi] at hb
   simp at hb
   obtain rfl:i = n:=by omega
   exact hb ▸ ha
theorem Opens.slice {α:Type} {P:Program} {t e:TypeId} {d:Kd α} {ok:α → Prop} (ht:P.underlying t = some (.slice e)) (hs:P.cellsOf t = 1) (he:Opens P e d ok) :
  Opens P t (Kd.slice e d) fun l => l.length ≤ maxLen ∧ ∀ a ∈ l,ok a:=by
 refine ⟨hs,fun {H enc w base spare held fuel cs x} h => ?_⟩
 rcases DataW.trod_slice ht h with ⟨rfl,_⟩ | ⟨a,len,cap,elems,rest,n,_,rfl,_,hb,hl,hm,hlen,hel,_,_⟩
 ·exact ⟨[],⟨none,0,rfl,Nat.le_refl _,rfl,by simp,fun h => absurd h (Nat.lt_irrefl 0)⟩,by simp,fun a ha => by simp at ha⟩
 ·have each:∀ i,i < len → ∃ z:α,(∃ c,w.cells? base (a.add (i * P.cellsOf e)) (P.cellsOf e) = some c ∧ d.K w z c) ∧ ok z:=by
   intro i hi
   have h1:=hel i hi
   rw [List.getElem?_eq_getElem (by omega),Option.bind_eq_some_iff] at h1
   obtain ⟨c,hc,hx⟩:=h1
   obtain ⟨z,hz,hk⟩:=he.opens hx
   exact ⟨z,⟨c,hc,hz⟩,hk⟩
  obtain ⟨l,hll,hp⟩:=choose_list len each
  unfold maxLen at hm
  refine ⟨l,⟨some a,cap,by rw [hll],by omega,?_⟩,by unfold maxLen;omega,fun z hz => ?_⟩
  ·refine ⟨rfl,by omega,fun _ => ⟨a,rfl,fun j p hj => ?_⟩⟩
   obtain ⟨⟨c,hc,hk⟩,_⟩:=hp j p hj
   obtain ⟨_,hcl,hcell⟩:=World.cells?_some hc
   rw [he.size] at hcl hcell
   refine ⟨c,hcl,hk,fun i u hu => ?_⟩
   have hi:i < d.sz:=by have:=(List.getElem?_eq_some_iff.1 hu).1;omega
   rw [← hu,← hcell i hi,add_add]
  ·obtain ⟨i,hi⟩:=List.getElem?_of_mem hz
   exact (hp i z hi).2
structure OpensF {α:Type} (P:Program) (fs:List Field) (off:Nat) (d:Kd α) (ok:α → Prop):Prop where
 opens:∀ {H:Type} {enc:TypeId × Value → H} {w:World} {base:Nat} {spare:Nat → Bool} {held:Bool} {n:Nat} {cs:List Value},
  (∀ (i:Nat) (f:Field),fs[i]? = some f → ∃ y,DataW.trod enc P w base spare held n f.type ((cs.drop f.offset).take (P.cellsOf f.type)) = some y) → ∃ a,d.K w a ((cs.drop off).take d.sz) ∧ ok a
theorem OpensF.one {α:Type} {P:Program} {f:Field} {off:Nat} {d:Kd α} {ok:α → Prop} (ho:f.offset = off) (h:Opens P f.type d ok):OpensF P [f] off d ok:=
 ⟨fun hx => by
  obtain ⟨y,hy⟩:=hx 0 f rfl
  obtain ⟨a,ha,hk⟩:=h.opens hy
  rw [ho,h.size] at ha
  exact ⟨a,ha,hk⟩⟩
theorem OpensF.more {α β:Type} {P:Program} {f:Field} {fs:List Field} {off:Nat} {d:Kd α} {d':Kd β} {ok:α → Prop} {ok':β → Prop} (ho:f.offset = off) (h:Opens P f.type d ok) (hr:OpensF P fs (off + d.sz) d' ok') :
  OpensF P (f :: fs) off (Kd.pair d d') fun x => ok x.1 ∧ ok' x.2:=
 ⟨fun {H enc w base spare held n cs} hx => by
  obtain ⟨y,hy⟩:=hx 0 f rfl
  obtain ⟨a,ha,hk⟩:=h.opens hy
  obtain ⟨b,hb,hk'⟩:=hr.opens (fun i g hg => hx (i + 1) g (by simpa using hg))
  rw [ho,h.size] at ha
  refine ⟨(a,b),⟨_,_,?_,ha,hb⟩,hk,hk'⟩
  show (cs.drop off).take (d.sz + d'.sz) = _
  rw [List.take_add,List.drop_drop]⟩
theorem Opens.struct {α β:Type} {P:Program} {t:TypeId} {fs:Array Field} {d:Kd α} {ok:α → Prop} (ht:P.underlying t = some (.struct fs)) (hs:P.cellsOf t = d.sz) (h:OpensF P fs.toList 0 d ok)
  (f:β → α) (g:α → β) (hfg:∀ a,f (g a) = a):Opens P t (Kd.iso d f) fun b => ok (f b):=by
 refine ⟨hs,fun {H enc w base spare held fuel cs x} hx => ?_⟩
 obtain ⟨xs,n,_,_,hl,hlen,hf⟩:=DataW.trod_struct ht hx
 obtain ⟨a,ha,hk⟩:=h.opens (cs:=cs) (fun i fl hi => ⟨_,(hf i fl (by simpa using hi)).trans (List.getElem?_eq_getElem (by rw [hlen];have:=(List.getElem?_eq_some_iff.1 hi).1;simpa using this))⟩)
 rw [List.drop_zero,List.take_of_length_le (by omega)] at ha
 exact ⟨g a,by show d.K w (f (g a)) cs;rw [hfg];exact ha,by rw [hfg];exact hk⟩
theorem opens_agg {α:Type} {P:Program} {t:TypeId} {fs:Array Field} {d:Kd α} {ok:α → Prop} (ht:P.underlying t = some (.struct fs)) (hs:P.cellsOf t = d.sz) (h:OpensF P fs.toList 0 d ok)
  {H:Type} {enc:TypeId × Value → H} {w:World} {base b0:Nat} {r:Reach} {spare:Nat → Bool} {held:Bool} {v:Value} {x:DataW H} {ps:List MemPlace} (hv:Value.okWide P w r b0 t v) (hx:DataW.Trod enc P w base spare held t v x ps) :
  ∃ cs a,v = .agg cs ∧ d.K w a cs.toList ∧ ok a:=by
 obtain ⟨cs,rfl,hsz⟩:=WideShapes.okWide_struct ht hv
 obtain ⟨fuel,hf⟩:=hx
 obtain ⟨xs,n,_,_,hl,hlen,hff⟩:=DataW.trod_struct ht hf
 obtain ⟨a,ha,hk⟩:=h.opens (cs:=cs.toList) (fun i fl hi => ⟨_,(hff i fl (by simpa using hi)).trans (List.getElem?_eq_getElem (by rw [hlen];have:=(List.getElem?_eq_some_iff.1 hi).1;simpa using this))⟩)
 rw [List.drop_zero,List.take_of_length_le (by simp;omega)] at ha
 exact ⟨cs,a,rfl,ha,hk⟩
end Go.Proofs.YtnbcnoabbdegpaaGreatDoor.O
