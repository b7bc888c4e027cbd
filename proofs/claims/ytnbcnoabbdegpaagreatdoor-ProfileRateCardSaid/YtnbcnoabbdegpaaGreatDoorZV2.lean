/- A part of the proof of the tied card of ProfileRate (chapter 53): the law returns true whatever the input. -/
import Derived.Test.YtnbcnoabbdegpaaGreatDoorZV1
import Derived.Great.FillDense
import Derived.Great.BuildSlice
import Derived.Laws.MakeOwn
import Derived.Lib.OthersKept
import Derived.Laws.IdiomStrings
import Derived.Lib.Builder
import Derived.TacticsIn
import Derived.RangeFuncRecord
import Derived.OrdersIn
set_option linter.unusedVariables false
set_option linter.unusedSimpArgs false
noncomputable section
namespace EV
open Go
variable {P:Program} {g:Nat} {ns:List Tmp}
theorem made_flat (z:Array Value):∀ n:Nat,(madeCells z (n * z.size)).toList = (List.replicate n z.toList).flatten
 | 0 => by simp [madeCells]
 | n + 1 => by
  rw [List.replicate_succ,List.flatten_cons,← made_flat z n]
  have e:(n + 1) * z.size = z.size + n * z.size:=by rw [Nat.add_mul,Nat.one_mul,Nat.add_comm]
  rw [e]
  apply List.ext_getElem?
  intro j
  simp only [madeCells,Array.toList_map,Array.toList_range,List.getElem?_map,List.getElem?_append,Array.length_toList]
  by_cases h1:j < z.size
  ·have h2:j < z.size + n * z.size:=by omega
   simp [h1,h2,Nat.mod_eq_of_lt h1]
  ·by_cases h2:j < z.size + n * z.size
   ·have h3:j - z.size < n * z.size:=by omega
    have h4:j % z.size = (j - z.size) % z.size:=by rw [Nat.mod_eq_sub_mod (by omega)]
    simp [h1,h2,h3,h4]
   ·have h3:¬ j - z.size < n * z.size:=by omega
    simp [h1,h2,h3]
theorem VRs_rep {ρ:Rho} {l:List AV} {us:List Value} (h:VRs ρ l us):∀ n,VRs ρ (List.replicate n l).flatten (List.replicate n us).flatten
 | 0 => trivial
 | n + 1 => by
  rw [List.replicate_succ,List.flatten_cons,List.replicate_succ,List.flatten_cons]
  exact VRs_app h (VRs_rep h n)
theorem one_rep {us:List Value} (h:∀ c ∈ us,c.oneCell' = true) (n:Nat):∀ c ∈ (List.replicate n us).flatten,c.oneCell' = true:=fun c hc => by
 obtain ⟨l,h1,h2⟩:=List.mem_flatten.1 hc
 obtain ⟨_,rfl⟩:=List.mem_replicate.1 h1
 exact h c h2
theorem made_rel {ρ:Rho} {l:List AV} {z:Array Value} {s:Nat} (h:VRs ρ l z.toList) (h1:∀ c ∈ z.toList,c.oneCell' = true) (hs:l.length = s) (n:Nat) :
  VRs ρ (repL l n) (madeCells z (n * s)).toList ∧ (∀ c ∈ (madeCells z (n * s)).toList,c.oneCell' = true) ∧ (madeCells z (n * s)).size = n * s:=by
 have hz:s = z.size:=by rw [← hs,VRs_len h];simp
 rw [repL_eq,hz,made_flat]
 exact ⟨VRs_rep h n,one_rep h1 n,by simp [madeCells]⟩
theorem overL_spec:∀ {vs cs r:List AV},overL vs cs = some r → vs.length ≤ cs.length ∧ r = vs ++ cs.drop vs.length
 | [],cs,r,h => by
  have:some cs = some r:=h
  cases this
  simp
 | v :: vs,[],r,h => by cases h
 | v :: vs,c :: cs,r,h => by
  obtain ⟨q,h1,h2⟩:=oK_some (show oK none (overL vs cs) (fun r => some (v :: r)) = some r from h)
  obtain ⟨h3,h4⟩:=overL_spec h1
  cases h2
  exact ⟨by simp;omega,by simp [h4]⟩
theorem putL_spec:∀ {cs vs:List AV} {n:Nat} {r:List AV},putL vs cs n = some r → n + vs.length ≤ cs.length ∧ r = cs.take n ++ (vs ++ cs.drop (n + vs.length))
 | [],vs,0,r,h => by
  obtain ⟨h1,h2⟩:=overL_spec (show overL vs [] = some r from h)
  exact ⟨by omega,by simpa using h2⟩
 | [],vs,n + 1,r,h => by cases h
 | c :: cs,vs,0,r,h => by
  obtain ⟨h1,h2⟩:=overL_spec (show overL vs (c :: cs) = some r from h)
  exact ⟨by omega,by simpa using h2⟩
 | c :: cs,vs,n + 1,r,h => by
  obtain ⟨q,h1,h2⟩:=oK_some (show oK none (putL vs cs n) (fun r => some (c :: r)) = some r from h)
  obtain ⟨h3,h4⟩:=putL_spec h1
  cases h2
  refine ⟨by simp;omega,?_⟩
  have:n + 1 + vs.length = (n + vs.length) + 1:=by omega
  rw [this]
  simp [h4]
theorem fold_toList (off:Nat) (vs cs:Array Value) (h:off + vs.size ≤ cs.size) :
  (vs.zipIdx.foldl (fun cs (x:Value × Nat) => cs.setIfInBounds (off + x.2) x.1) cs).toList = cs.toList.take off ++ (vs.toList ++ cs.toList.drop (off + vs.size)):=by
 have e:vs.zipIdx.foldl (fun cs (x:Value × Nat) => cs.setIfInBounds (off + x.2) x.1) cs = (vs.toList.zipIdx 0).foldl (fun cs (x:Value × Nat) => cs.setIfInBounds (off + x.2) x.1) cs:=by
  rw [← Array.foldl_toList,Array.toList_zipIdx]
 rw [e]
 obtain ⟨h1,h2⟩:=Great.foldl_set off vs.toList 0 cs
 apply List.ext_getElem?
 intro k
 rw [Array.getElem?_toList,h2 k]
 simp only [Nat.add_zero,Array.length_toList,List.getElem?_append,List.length_take,List.getElem?_drop,Array.getElem?_toList]
 by_cases a:k < off
 ·have a1:¬ (off ≤ k ∧ k < off + vs.size ∧ k < cs.size):=by omega
  have a2:k < min off cs.size:=by omega
  rw [if_neg a1,if_pos a2]
  simp [a]
 ·have a2:¬ k < min off cs.size:=by omega
  have a3:min off cs.size = off:=by omega
  rw [if_neg a2,a3]
  by_cases b:k < off + vs.size
  ·have b1:off ≤ k ∧ k < off + vs.size ∧ k < cs.size:=by omega
   rw [if_pos b1,if_pos (by omega)]
  ·have b1:¬ (off ≤ k ∧ k < off + vs.size ∧ k < cs.size):=by omega
   rw [if_neg b1,if_neg (by omega)]
   congr 1
   omega
theorem mem_put {us vs:List Value} {o m:Nat} (h:∀ c ∈ us,c.oneCell' = true) (h':∀ c ∈ vs,c.oneCell' = true):∀ c ∈ us.take o ++ (vs ++ us.drop m),c.oneCell' = true:=fun c hc => by
 rcases List.mem_append.1 hc with x | x
 ·exact h c (List.mem_of_mem_take x)
 ·rcases List.mem_append.1 x with x | x
  ·exact h' c x
  ·exact h c (List.mem_of_mem_drop x)
theorem fill_ok {pl:PlF} {S:P2 Tmps (Env ns)}:∀ {ps:List (Nat × Operand)} {cs:List AV} {k:List AV → Ans},((fillF ns pl ps).1 S cs k).ok →
  ∃ cs',(fillF ns pl ps).1 S cs k = k cs' ∧ ∀ (ρ:Rho) (a:Act) (place:Nat → Option (Nat × Nat)) (us:Array Value),(∀ i q,pl.1 i = some q → place i = some (q.1,q.2)) →
   (∀ p ∈ ps,VR ρ ((opd ns p.2).1 S) (a.eval p.2)) → VRs ρ cs us.toList → (∀ c ∈ us.toList,c.oneCell' = true) →
    ∃ us',Instr.fill place us (ps.map fun p => (p.1,a.eval p.2)) = some us' ∧ VRs ρ cs' us'.toList ∧ (∀ c ∈ us'.toList,c.oneCell' = true) ∧ us'.size = us.size
 | [],cs,k,_ => ⟨cs,rfl,fun ρ a place us _ _ h h1 => ⟨us,rfl,h,h1,rfl⟩⟩
 | p :: ps,cs,k,hk => by
  cases hp:pl.1 p.1 with
  | none =>
   have:(fillF ns pl (p :: ps)) = Option.rec (motive:=fun _ => FillF ns) ⟨fun _ _ _ => .fail 43⟩
    (fun q => ⟨fun T cs k => cellsK ((opd ns p.2).1 T) fun vs => bA (Nat.beq (len vs) q.2) (oF (putL vs cs q.1) fun cs => (fillF ns pl ps).1 T cs k) (.fail 44)⟩) (pl.1 p.1):=rfl
   rw [this,hp] at hk
   exact hk.elim
  | some q =>
   have e0:(fillF ns pl (p :: ps)).1 S cs k = cellsK ((opd ns p.2).1 S) fun vs => bA (Nat.beq (len vs) q.2) (oF (putL vs cs q.1) fun cs => (fillF ns pl ps).1 S cs k) (.fail 44):=by
    have:(fillF ns pl (p :: ps)) = Option.rec (motive:=fun _ => FillF ns) ⟨fun _ _ _ => .fail 43⟩
     (fun q => ⟨fun T cs k => cellsK ((opd ns p.2).1 T) fun vs => bA (Nat.beq (len vs) q.2) (oF (putL vs cs q.1) fun cs => (fillF ns pl ps).1 T cs k) (.fail 44)⟩) (pl.1 p.1):=rfl
    rw [this,hp]
   rw [e0] at hk ⊢
   obtain ⟨vs,e,hvs⟩:=cellsK_ok hk
   rw [e] at hk ⊢
   obtain ⟨h1,e⟩:=bA_ok hk
   rw [e] at hk ⊢
   obtain ⟨cs2,h2,e⟩:=oF_ok hk
   rw [e] at hk ⊢
   obtain ⟨cs',e,hrec⟩:=fill_ok (pl:=pl) (S:=S) (ps:=ps) hk
   refine ⟨cs',e,fun ρ a place us hpl hR hcs h1c => ?_⟩
   obtain ⟨hv,hv1⟩:=hvs (hR p (by simp))
   obtain ⟨h3,h4⟩:=putL_spec h2
   have hl1:=VRs_len hv
   have hl2:=VRs_len hcs
   rw [len_eq] at h1
   have h1:=Nat.eq_of_beq_eq_true h1
   simp only [Array.length_toList] at hl1 hl2
   have hfold:=fold_toList q.1 (a.eval p.2).cells us (by omega)
   have hsz:((a.eval p.2).cells.zipIdx.foldl (fun cs (x:Value × Nat) => cs.setIfInBounds (q.1 + x.2) x.1) us).size = us.size:=by
    rw [← Array.length_toList,hfold]
    simp
    omega
   obtain ⟨us',r1,r2,r3,r4⟩:=hrec ρ a place ((a.eval p.2).cells.zipIdx.foldl (fun cs (x:Value × Nat) => cs.setIfInBounds (q.1 + x.2) x.1) us) hpl (fun p hp => hR p (by simp [hp]))
    (by rw [hfold,h4,hl1];exact VRs_app (VRs_take _ hcs) (VRs_app hv (VRs_drop _ hcs)))
    (by rw [hfold];exact mem_put h1c hv1)
   refine ⟨us',?_,r2,r3,r4.trans hsz⟩
   rw [List.map_cons]
   unfold Instr.fill
   rw [hpl _ _ hp]
   have c1:¬ ((a.eval p.2).cells.size ≠ q.2 ∨ q.1 + (a.eval p.2).cells.size > us.size):=by omega
   simp only [ne_eq,decide_not,Bool.or_eq_true,Bool.not_eq_eq_eq_not,Bool.not_true,decide_eq_false_iff_not,decide_eq_true_eq] at c1 ⊢
   rw [if_neg c1]
   exact r1
theorem places_some:∀ {fs:List Field},(fs.all fun f => (szOf P f.type).isSome) = true → ∃ pls:List (Nat × Nat),fs.mapM (fun (f:Field) => (P.info? f.type).map fun i => (f.offset,i.size)) = some pls ∧
  ∀ (i:Nat) (f:Field) (s:Nat),fs[i]? = some f → szOf P f.type = some s → pls[i]? = some (f.offset,s)
 | [],_ => ⟨[],rfl,fun i f s h => by simp at h⟩
 | f :: fs,h => by
  simp only [List.all_cons,Bool.and_eq_true] at h
  obtain ⟨s0,hs0⟩:=Option.isSome_iff_exists.1 h.1
  obtain ⟨i0,hi0,hi1⟩:=szOf_info hs0
  obtain ⟨pls,h1,h2⟩:=places_some (fs:=fs) h.2
  refine ⟨(f.offset,s0) :: pls,by simp [List.mapM_cons,hi0,hi1,h1],fun i f' s hf hs => ?_⟩
  cases i with
  | zero =>
   simp at hf
   subst hf
   rw [hs0] at hs
   cases hs
   rfl
  | succ i => simpa using h2 i f' s (by simpa using hf) hs
theorem plc_built {t:TypeId} {d:TypeDesc} {pl:PlF} {z:List AV} (hd:P.underlying t = some d) (hpl:plcD P t d = some pl) (hz:zeroOf P t = some z) :
  ∃ (zv:Value) (place:Nat → Option (Nat × Nat)),constCells zv.cells.toList = some z ∧ (∀ i q,pl.1 i = some q → place i = some (q.1,q.2)) ∧
   ∀ parts cells,Instr.fill place zv.cells parts = some cells → P.built t parts = some cells:=by
 obtain ⟨it,zv,hi,hzv,hc⟩:=zeroOf_spec hz
 cases d with
 | struct fs =>
  obtain ⟨h1,h2⟩:=bK_some (show bK (fs.toList.all fun f => (szOf P f.type).isSome) (some (plcS P t)) none = some pl from hpl)
  subst h2
  obtain ⟨pls,h3,h4⟩:=places_some h1
  refine ⟨zv,fun i => pls.toArray[i]?,hc,fun i q hq => ?_,fun parts cells hf => ?_⟩
  ·obtain ⟨fi,h5,h6⟩:=oK_some (show oK none (fieldI P t i) (fun f => some (Plc.mk f.1 f.2)) = some q from hq)
   cases h6
   obtain ⟨fs',fd,g1,g2,g3,g4,_⟩:=fieldI_spec h5
   rw [hd] at g1
   cases g1
   have:=h4 i fd fi.2 (by simpa using g2) g4
   simpa [g3] using this
  ·simp only [Program.built,hi,hd,hzv,h3]
   exact hf
 | array n e =>
  obtain ⟨s,h1,h2⟩:=oK_some (show oK none (szOf P e) (fun s => some (plcA s)) = some pl from hpl)
  cases h2
  obtain ⟨ie,h3,h4⟩:=szOf_info h1
  subst h4
  refine ⟨zv,fun i => some (i * ie.size,ie.size),hc,fun i q hq => ?_,fun parts cells hf => ?_⟩
  ·cases hq
   rfl
  ·simp only [Program.built,hi,hd,hzv,h3]
   exact hf
 | _ => cases hpl
theorem partsOf {S:P2 Tmps (Env ns)} {ρ:Rho} {a:Act} {op:Op} {ps:Array (Nat × Operand)} (ho:op.operands = (ps.toList.map (·.2)).toArray) (hR:∀ y ∈ op.operands,VR ρ ((opd ns y).1 S) (a.eval y)) :
  ∀ p ∈ ps.toList,VR ρ ((opd ns p.2).1 S) (a.eval p.2):=fun p hp => hR p.2 (by rw [ho];simp;exact ⟨p.1,by simpa using hp⟩)
theorem build_pu {o:Oper} {t:TypeId} {ps:Array (Nat × Operand)} (ho:o.op = .build t ps):PuOK P g (eBuild ns P t ps.toList) o:=
 oO_pu fun z hz => oO_pu fun d hd => oO_pu fun pl hpl => fun cx S h n K hk => by
  change ((fillF ns pl ps.toList).1 S z fun cs => fS cs fun cs => K (mAgg cs) h n).ok at hk
  change ∃ v,((fillF ns pl ps.toList).1 S z fun cs => fS cs fun cs => K (mAgg cs) h n) = K v h n ∧ _
  obtain ⟨cs,e,hf⟩:=fill_ok hk
  rw [e,fS_eq]
  refine ⟨_,rfl,fun ρ a w _ hR => ?_⟩
  obtain ⟨zv,place,h1,h2,h3⟩:=plc_built hd hpl hz
  obtain ⟨q1,q2,_⟩:=constCells_rel (ρ:=ρ) h1
  obtain ⟨us,r1,r2,r3,_⟩:=hf ρ a place zv.cells h2 (partsOf (by simp [ho,Op.operands]) hR) q1 q2
  refine ⟨.agg us,?_,VR_mAgg r2 r3⟩
  have hb:=run_build (P:=P) w t (ps.map fun (i,x) => (i,a.eval x)) us (by rw [Array.toList_map];exact h3 _ _ r1)
  simp [execOp,ho,hb]
theorem build_ok {o:Oper} {ih:IH → Prop} {t:TypeId} {ps:Array (Nat × Operand)} (ho:o.op = .build t ps):OpOK P g (eBuild ns P t ps.toList) o ih:=.pure (build_pu ho)
theorem VR_row {ρ:Rho} {n B R l c el:Nat} (hp:ρ n = some ⟨B,0,R⟩) (hl:l ≤ c) (hR:el ≠ 0 → c * el ≤ R):VR ρ (mSl n 0 l c el) (.slice (some ⟨B,0,none⟩) l c):=
 ⟨_,_,c,hp,rfl,fun _ => rfl,fun z => ⟨Nat.le_refl _,by change 0 + c * el ≤ R;have:=hR z;omega⟩,.inl rfl,hl⟩
theorem buildSlice_al {o:Oper} {t:TypeId} {ln:Nat} {ps:Array (Nat × Operand)} (ho:o.op = .buildSlice t ln ps):AlOK P (eBuildSlice ns P t ln ps.toList) o:=
 oO_al fun e he => oO_al fun s hs => oO_al fun z hz => bO_al (fun hb => bO_al (fun hb2 => by
  intro cx S h n K hk
  change ((fillF ns (plcA s) ps.toList).1 S (repL z ln) fun cs => rowK e cs h n fun h m => K (mSl n (nat_lit 0) ln ln (nat_lit 0)) h m).ok at hk
  change ∃ v ao,n < maxBlocks ∧ ((fillF ns (plcA s) ps.toList).1 S (repL z ln) fun cs => rowK e cs h n fun h m => K (mSl n (nat_lit 0) ln ln (nat_lit 0)) h m) = K v (hset h n ao) (n + 1) ∧ _
  obtain ⟨cs,e1,hf⟩:=fill_ok hk
  rw [e1] at hk ⊢
  obtain ⟨h1,h2,e1⟩:=rowK_ok hk
  rw [e1]
  refine ⟨_,_,h2,rfl,fun ρ a w hR => ?_⟩
  obtain ⟨it,zv,hi,hzv,hc⟩:=zeroOf_spec hz
  obtain ⟨i2,hi2,hsz⟩:=szOf_info hs
  rw [hi] at hi2
  cases hi2
  obtain ⟨q1,q2,_⟩:=constCells_rel (ρ:=ρ) hc
  rw [len_eq] at hb
  obtain ⟨m1,m2,_⟩:=made_rel q1 q2 (Nat.eq_of_beq_eq_true hb) ln
  obtain ⟨us,r1,r2,r3,_⟩:=hf ρ a (fun i => some (i * s,s)) (madeCells zv.cells (ln * s)) (fun i q hq => by cases hq;rfl) (partsOf (by simp [ho,Op.operands]) hR) m1 m2
  obtain ⟨d,hd,hde⟩:=oK_some (show oK none (P.underlying t) elemD = some e from he)
  have hd':P.underlying t = some (.slice e):=by
   cases d with
   | slice x => cases hde;exact hd
   | _ => cases hde
  have hle:ln * s ≤ 16777216:=Nat.le_of_ble_eq_true hb2
  refine ⟨.slice (some ⟨w.heap.size,0,none⟩) ln ln,.cells us e,?_,fun ρ' w2 hl' hp hw => ⟨VR_row hp (Nat.le_refl _) fun z => absurd rfl z,OW_rowAt hl' r2 r3 h1 hw⟩⟩
  have hrun:(Instr.buildSlice t ln (ps.map fun (i,x) => (i,a.eval x))).run P w = .ok (.slice (some ⟨w.heap.size,0,none⟩) ln ln) (w.alloc (.cells us e)):=by
   have r1':Instr.fill (fun i => some (i * it.size,it.size)) ((Array.range (ln * it.size)).map (zv.cells[· % zv.cells.size]!)) (ps.map fun (i,x) => (i,a.eval x)).toList = some us:=by
    rw [hsz,Array.toList_map]
    exact r1
   by_cases hpos:ln * it.size = 0
   ·rw [hpos] at r1'
    have hsm:¬ ln * it.size > 2 ^ 24:=by omega
    have hz0:Array.range 0 = (#[]:Array Nat):=rfl
    rw [hz0] at r1'
    simp only [Array.map_empty,Array.toList_map] at r1'
    simp [Instr.buildSlice,run_underlying' hd',Go.sizeOf,typeInfo,zeroValue,hi,hzv,hpos,newRow,hz0,r1']
   ·exact run_buildSlice w t e ln _ us it zv hd' hi hzv (by rw [hsz];omega) hpos r1'
  simp [execOp,ho,hrun]) fun _ => badO_al) fun _ => badO_al
theorem buildSlice_ok {o:Oper} {ih:IH → Prop} {t:TypeId} {ln:Nat} {ps:Array (Nat × Operand)} (ho:o.op = .buildSlice t ln ps):OpOK P g (eBuildSlice ns P t ln ps.toList) o ih:=(buildSlice_al ho).ok
theorem makeMap_al {o:Oper} {t:TypeId} {r:Option Operand} (ho:o.op = .makeMap t r):AlOK P (eMakeMap ns r) o:=by
 cases r with
 | some _ => exact badO_al
 | none =>
  intro cx S h n K hk
  change (newK ⟨(nat_lit 3),(nat_lit 0),(nat_lit 0),cells0,[],(nat_lit 0)⟩ h n fun h m => K (mMap n) h m).ok at hk
  change ∃ v ao,n < maxBlocks ∧ (newK ⟨(nat_lit 3),(nat_lit 0),(nat_lit 0),cells0,[],(nat_lit 0)⟩ h n fun h m => K (mMap n) h m) = K v (hset h n ao) (n + 1) ∧ _
  obtain ⟨h1,e⟩:=newK_ok hk
  rw [e]
  refine ⟨_,_,h1,rfl,fun ρ a w hR => ?_⟩
  refine ⟨.map (some w.heap.size),.map #[] 0,by simp [execOp,ho,Instr.makeMap],fun ρ' w2 hl' hp hw => ⟨⟨_,hp,rfl⟩,fun hr => ?_,fun _ => ⟨rfl,#[],0,hw,trivial⟩,fun ht => ?_⟩⟩
  ·cases hr
  ·cases ht
theorem makeMap_ok {o:Oper} {ih:IH → Prop} {t:TypeId} {r:Option Operand} (ho:o.op = .makeMap t r):OpOK P g (eMakeMap ns r) o ih:=(makeMap_al ho).ok
theorem makeSlice_al {o:Oper} {t:TypeId} {x y:Operand} (ho:o.op = .makeSlice t x y):AlOK P (eMakeSlice ns P t x y) o:=
 oO_al fun e he => oO_al fun i hi => oO_al fun z hz => bO_al (fun hb => by
  intro cx S h n K hk
  change (natK ((opd ns x).1 S) fun l => natK ((opd ns y).1 S) fun c =>
   bA (Nat.ble (Nat.mul i.bytes c) (nat_lit 281474976710656)) (bA (Nat.ble c (nat_lit 32768)) (bA (Nat.ble l c)
    (rowK e (repL z c) h n fun h m => K (mSl n (nat_lit 0) l c (nat_lit 0)) h m) (.fail 49)) (.fail 49)) (.fail 49)).ok at hk
  change ∃ v ao,n < maxBlocks ∧ (natK ((opd ns x).1 S) fun l => natK ((opd ns y).1 S) fun c =>
   bA (Nat.ble (Nat.mul i.bytes c) (nat_lit 281474976710656)) (bA (Nat.ble c (nat_lit 32768)) (bA (Nat.ble l c)
    (rowK e (repL z c) h n fun h m => K (mSl n (nat_lit 0) l c (nat_lit 0)) h m) (.fail 49)) (.fail 49)) (.fail 49)) = K v (hset h n ao) (n + 1) ∧ _
  obtain ⟨h1,e1⟩:=natK_ok hk
  rw [e1] at hk ⊢
  obtain ⟨h2,e1⟩:=natK_ok hk
  rw [e1] at hk ⊢
  obtain ⟨h3,e1⟩:=bA_ok hk
  rw [e1] at hk ⊢
  obtain ⟨h4,e1⟩:=bA_ok hk
  rw [e1] at hk ⊢
  obtain ⟨h5,e1⟩:=bA_ok hk
  rw [e1] at hk ⊢
  obtain ⟨h6,h7,e1⟩:=rowK_ok hk
  rw [e1]
  refine ⟨_,_,h7,rfl,fun ρ a w hR => ?_⟩
  obtain ⟨it,zv,hi',hzv,hc⟩:=zeroOf_spec hz
  rw [hi] at hi'
  cases hi'
  obtain ⟨q1,q2,_⟩:=constCells_rel (ρ:=ρ) hc
  rw [len_eq] at hb
  obtain ⟨m1,m2,m3⟩:=made_rel q1 q2 (Nat.eq_of_beq_eq_true hb) ((opd ns y).1 S).2
  obtain ⟨d,hd,hde⟩:=oK_some (show oK none (P.underlying t) elemD = some e from he)
  have hd':P.underlying t = some (.slice e):=by
   cases d with
   | slice x => cases hde;exact hd
   | _ => cases hde
  obtain ⟨k1,hx,_⟩:=natV (hR x (by simp [ho,Op.operands])) h1
  obtain ⟨k2,hy,_⟩:=natV (hR y (by simp [ho,Op.operands])) h2
  have hle:i.bytes * ((opd ns y).1 S).2 ≤ 281474976710656:=Nat.le_of_ble_eq_true h3
  have hle2:((opd ns y).1 S).2 ≤ 32768:=Nat.le_of_ble_eq_true h4
  have hle3:((opd ns x).1 S).2 ≤ ((opd ns y).1 S).2:=Nat.le_of_ble_eq_true h5
  have hr:=run_make (P:=P) w t e i zv hd' hi hzv k1 k2 (((opd ns x).1 S).2:Int) (((opd ns y).1 S).2:Int) (by omega) (by omega)
   (by have:((i.bytes * ((opd ns y).1 S).2:Nat):Int) ≤ 281474976710656:=(by omega);rwa [Int.natCast_mul] at this) (by omega)
  simp only [Int.toNat_natCast] at hr
  exact ⟨.slice (some ⟨w.heap.size,0,none⟩) ((opd ns x).1 S).2 ((opd ns y).1 S).2,_,by simp only [execOp,ho,hx,hy,hr,Sem.run_bind,Result.andThen_ok,Sem.run_pure],fun ρ' w2 hl' hp hw => ⟨VR_row hp hle3 fun z => absurd rfl z,OW_rowAt hl' m1 m2 h6 hw⟩⟩) fun _ => badO_al
theorem makeSlice_ok {o:Oper} {ih:IH → Prop} {t:TypeId} {x y:Operand} (ho:o.op = .makeSlice t x y):OpOK P g (eMakeSlice ns P t x y) o ih:=(makeSlice_al ho).ok
theorem byteAt_str {s:ByteArray} {i:Nat} (h:i < s.size):byteAt s.size (pk (bytes s)) i = (s[i]'h).toNat:=by
 have hl:i < (bytes s).length:=by rw [bytes_len];exact h
 have h1:byteAt (bytes s).length (pk (bytes s)) i = (bytes s)[i]'hl:=byteAt_eq (bytes_lt s) hl
 have h2:(bytes s)[i]'hl = (s[i]'h).toNat:=by
  simp only [bytes,List.getElem_map,Array.getElem_toList]
  rfl
 rw [← h2,← h1,bytes_len]
theorem range_ok {o:Oper} {ih:IH → Prop} {t:TypeId} {x:Operand} (ho:o.op = .range t x):OpOK P g (eRange ns P t x) o ih:=
 oO_ok fun d hd => by
  cases d with
  | string =>
   intro cx S h n K _ hk
   change (isT (nat_lit 5) ((opd ns x).1 S) (newK ⟨(nat_lit 4),((opd ns x).1 S).2,(nat_lit 0),cells0,[],((opd ns x).1 S).3⟩ h n fun h m => K (mPtr n (nat_lit 0)) h m)).ok at hk
   change ∃ v h' n',(isT (nat_lit 5) ((opd ns x).1 S) (newK ⟨(nat_lit 4),((opd ns x).1 S).2,(nat_lit 0),cells0,[],((opd ns x).1 S).3⟩ h n fun h m => K (mPtr n (nat_lit 0)) h m)) = K v h' n' ∧ _
   obtain ⟨h0,e⟩:=isT_ok hk
   rw [e] at hk ⊢
   obtain ⟨h1,e⟩:=newK_ok hk
   rw [e]
   refine ⟨_,_,_,rfl,fun ρ a w hE hR next Q hn => ?_⟩
   obtain ⟨s,hs,hs1,hs2⟩:=VR_5 (hR x (by simp [ho,Op.operands])) h0
   refine wp_value (u:=.pointer (some ⟨w.heap.size,0,none⟩)) (w':=w.alloc (.stringIter s 0)) ?_ (hn _ (ρ.up n ⟨w.heap.size,0,0⟩) _ (VR_mPtr (Rho.up_same _ _ _)) (hE.alloc h1 ?_) (Stp.alloc hE h1))
   ·simp [execOp,ho,hs,Instr.range,run_underlying' hd]
   ·exact ⟨fun hr => (by cases hr),fun ht => (by cases ht),fun _ => ⟨rfl,s,heap_alloc_new _ _,hs1,hs2⟩⟩
  | _ => exact badO_ok
theorem next_ok {o:Oper} {ih:IH → Prop} {x:Operand} {b:Bool} (ho:o.op = .next x b):OpOK P g (eNext ns x b) o ih:=
 bO_ok (fun hb => by
  subst hb
  intro cx S h n K _ hk
  change (isT (nat_lit 3) ((opd ns x).1 S) (bA (Nat.beq ((heapF ((opd ns x).1 S).2).1 h).1 (nat_lit 4)) (bA (Nat.beq ((opd ns x).1 S).3 (nat_lit 0)) (nextK cx.1 ((opd ns x).1 S).2 ((heapF ((opd ns x).1 S).2).1 h) h n K) (.fail 81)) (.fail 81))).ok at hk
  change ∃ v h' n',(isT (nat_lit 3) ((opd ns x).1 S) (bA (Nat.beq ((heapF ((opd ns x).1 S).2).1 h).1 (nat_lit 4)) (bA (Nat.beq ((opd ns x).1 S).3 (nat_lit 0)) (nextK cx.1 ((opd ns x).1 S).2 ((heapF ((opd ns x).1 S).2).1 h) h n K) (.fail 81)) (.fail 81))) = K v h' n' ∧ _
  rw [heapF_get] at hk ⊢
  obtain ⟨h0,e⟩:=isT_ok hk
  rw [e] at hk ⊢
  obtain ⟨h1,e⟩:=bA_ok hk
  rw [e] at hk ⊢
  obtain ⟨h2,e⟩:=bA_ok hk
  rw [e] at hk ⊢
  have h1:=Nat.eq_of_beq_eq_true h1
  have h2:((opd ns x).1 S).3 = 0:=Nat.eq_of_beq_eq_true h2
  have fact:∀ (ρ:Rho) (a:Act) (w:World),Emb g cx.1 ρ h n w → VR ρ ((opd ns x).1 S) (a.eval x) → ∃ B s,ρ ((opd ns x).1 S).2 = some ⟨B,0,(ρ ((opd ns x).1 S).2).elim 0 Pl.R⟩ ∧ a.eval x = .pointer (some ⟨B,0,none⟩) ∧
    w.heap[B]? = some (.stringIter s (hget h ((opd ns x).1 S).2).3) ∧ s.size = (hget h ((opd ns x).1 S).2).2 ∧ pk (bytes s) = (hget h ((opd ns x).1 S).2).6:=fun ρ a w hE hx => by
   obtain ⟨pl,hp,hu⟩:=VR_3 hx h0
   obtain ⟨q,q1,_,_,q3⟩:=hE.ob _ (hE.bd _ _ hp).1 (by rw [h1];exact fun c => by cases c)
   rw [hp] at q1
   cases q1
   obtain ⟨p0,s,s1,s2,s3⟩:=q3 h1
   obtain ⟨B,o,R⟩:=pl
   change o = 0 at p0
   subst p0
   rw [h2] at hu
   exact ⟨B,s,by rw [hp];rfl,hu,s1,s2,s3⟩
  unfold nextK at hk ⊢
  cases hlt:Nat.blt (hget h ((opd ns x).1 S).2).3 (hget h ((opd ns x).1 S).2).2 with
  | false =>
   rw [bA_false]
   refine ⟨_,_,_,rfl,fun ρ a w hE hR next Q hn => ?_⟩
   obtain ⟨B,s,_,hu,hw,hs,_⟩:=fact ρ a w hE (hR x (by simp [ho,Op.operands]))
   have hge:=bltEF hlt
   have hr:=Lib.run_next_end_at (P:=P) w B s _ o.type hw (by omega)
   exact wp_value (by simp [execOp,ho,hu,hr]) (hn (.tuple #[.bool false]) ρ w (VR_mTup ⟨VR_tF,trivial⟩) hE (Stp.refl _ _ _ _ _))
  | true =>
   rw [hlt,bA_true] at hk
   rw [bA_true]
   obtain ⟨h6,e⟩:=bA_ok hk
   rw [e] at hk ⊢
   obtain ⟨h3,e⟩:=bA_ok hk
   rw [e] at hk ⊢
   rw [tch_eq] at hk ⊢
   obtain ⟨h4,e⟩:=bA_ok hk
   rw [e,fT_eq,heapF_put]
   refine ⟨_,_,_,rfl,fun ρ a w hE hR next Q hn => ?_⟩
   obtain ⟨B,s,hρ,hu,hw,hs,hpk⟩:=fact ρ a w hE (hR x (by simp [ho,Op.operands]))
   have hlt':(hget h ((opd ns x).1 S).2).3 < s.size:=by have:=bltE hlt;omega
   have hb:byteAt (hget h ((opd ns x).1 S).2).2 (hget h ((opd ns x).1 S).2).6 (hget h ((opd ns x).1 S).2).3 = (s[(hget h ((opd ns x).1 S).2).3]'hlt').toNat:=by
    rw [← hs,← hpk]
    exact byteAt_str hlt'
   have h4:=bltE h4
   rw [hb] at h4 hn
   have hr:=Lib.run_next_ascii_at (P:=P) w B s _ o.type hw hlt' h4
   have hlk:cx.1 ≤ ((opd ns x).1 S).2:=Nat.le_of_ble_eq_true h3
   have hB:B < w.heap.size:=(hE.bd _ _ hρ).2
   have hlive:(hget h ((opd ns x).1 S).2).1 ≠ 0:=by rw [h1];exact fun c => by cases c
   refine wp_value (u:=.tuple #[.bool true,.int .i64 (hget h ((opd ns x).1 S).2).3,.int .i32 (s[(hget h ((opd ns x).1 S).2).3]'hlt').toNat]) (w':=w.iterAt B s ((hget h ((opd ns x).1 S).2).3 + 1))
    (by simp [execOp,ho,hu,hr]) (hn _ ρ _ (VR_mTup ⟨VR_tT,?_,?_,trivial⟩) (hE.write hρ hlk hlive (by rw [h1];exact fun c => by cases c) (by exact fun c => by cases c) (fun _ => ?_) ?_ fun k hk => ?_) (Stp.write hE hρ hlk hlive rfl rfl rfl ?_ fun k hk => ?_))
   ·have h6:=bltE h6
    have:=VR_mInt (ρ:=ρ) .i64 (m:=(hget h ((opd ns x).1 S).2).3) (Nat.lt_trans h6 (by decide))
    rwa [toI_nonneg h6] at this
   ·have hl:(s[(hget h ((opd ns x).1 S).2).3]'hlt').toNat < md .i32:=Nat.lt_trans h4 (by decide)
    have:=VR_mInt (ρ:=ρ) .i32 hl
    rwa [toI_nonneg (by exact Nat.lt_trans h4 (by decide))] at this
   ·exact ⟨fun hr => (by cases hr),fun ht => (by cases ht),fun _ => ⟨rfl,s,Lib.iterAt_heap w B s _ _ hw,hs,hpk⟩⟩
   ·simp [World.iterAt]
   ·simp [World.iterAt,Ne.symm hk]
   ·simp [World.iterAt]
   ·simp [World.iterAt,Ne.symm hk]) fun _ => badO_ok
end EV
end
noncomputable section
namespace EV
open Go
variable {P:Program} {g:Nat} {ns:List Tmp}
theorem OW_rowF {ρ:Rho} {w:World} {e:TypeId} {l:List AV} {cs:Array Value} {f:Nat × Nat} (hv:VRs ρ l (cs.toList.take l.length)) (h1:∀ c ∈ cs.toList.take l.length,c.oneCell' = true) (hle:l.length ≤ cs.size)
  (hl:l.length ≤ maxCells) (hf:∀ off,(f.1 ≤ off && off < f.2) = true → cs.size ≤ off) :
  OW ρ ⟨1,e,l.length,setL l 0 cells0,[],0⟩ ⟨w.heap.size,0,cs.size⟩ (w.alloc (.cells cs e f)):=by
 refine ⟨fun _ => ⟨fun _ => rfl,?_,hle,hl,fun i hi => ?_,fun _ off hf' => ?_⟩,fun ht => absurd ht (by change ¬ (1:Nat) = 3;decide),fun ht => absurd ht (by change ¬ (1:Nat) = 4;decide)⟩
 ·have:=heap_alloc_new w (.cells cs e f)
  change (w.alloc (.cells cs e f)).shape? w.heap.size = some (e,0 + cs.size)
  simp only [World.shape?,this,Nat.zero_add]
 ·change i < l.length at hi
  have hi':i < cs.size:=by omega
  have hc:=World.cell?_alloc_mark w cs e f i
  refine ⟨cs[i],?_,h1 _ ?_,?_⟩
  ·change (w.alloc (.cells cs e f)).cell? ⟨w.heap.size,0 + i,none⟩ = _
   rw [Nat.zero_add,hc]
   simp [hi']
  ·refine List.mem_of_getElem? (i:=i) ?_
   rw [List.getElem?_take,if_pos hi]
   simp [hi']
  ·have hg:=setL_get l 0 cells0 i (by omega) (by omega)
   rw [if_pos (by omega)] at hg
   change VR ρ ((setL l 0 cells0).get i) _
   rw [hg]
   exact VRs_get hv (i - 0) _ (by rw [List.getElem?_take,if_pos (by omega)];simp [hi'])
 ·have:=heap_alloc_new w (.cells cs e f)
  change (w.alloc (.cells cs e f)).frozen? ⟨w.heap.size,off,none⟩ = true at hf'
  simp only [World.frozen?,this] at hf'
  change 0 + cs.size ≤ off
  have:=hf off hf'
  omega
theorem byteL_rel {ρ:Rho} (s:ByteArray):∀ m,m ≤ s.size → (byteL s.size (pk (bytes s)) m).length = m ∧ VRs ρ (byteL s.size (pk (bytes s)) m) ((s.data.toList.map fun b => Value.int .u8 b.toNat).drop (s.size - m))
 | 0,_ => ⟨rfl,by
  have:(s.data.toList.map fun b => Value.int .u8 b.toNat).length ≤ s.size - 0:=by simp
  rw [List.drop_eq_nil_of_le this]
  trivial⟩
 | m + 1,h => by
  obtain ⟨h1,h2⟩:=byteL_rel (ρ:=ρ) s m (by omega)
  have e:byteL s.size (pk (bytes s)) (m + 1) = mInt 20 (byteAt s.size (pk (bytes s)) (s.size - 1 - m)) :: byteL s.size (pk (bytes s)) m:=rfl
  have hi:s.size - 1 - m < s.size:=by omega
  rw [e,byteAt_str hi]
  refine ⟨by simp [h1],?_⟩
  have hl:s.size - (m + 1) < (s.data.toList.map fun b => Value.int .u8 (b.toNat:Int)).length:=by
   rw [List.length_map,Array.length_toList]
   change s.size - (m + 1) < s.size
   omega
  rw [List.drop_eq_getElem_cons hl]
  have hlt:(s[s.size - 1 - m]'hi).toNat < hf .u8:=(s[s.size - 1 - m]'hi).toNat_lt
  have:=VR_mInt (ρ:=ρ) .u8 (m:=(s[s.size - 1 - m]'hi).toNat) hlt
  rw [toI_nonneg hlt] at this
  refine ⟨?_,?_⟩
  ·have eq:(s.data.toList.map fun b => Value.int .u8 (b.toNat:Int))[s.size - (m + 1)]'hl = Value.int .u8 ((s[s.size - 1 - m]'hi).toNat:Int):=by
    simp only [List.getElem_map,Array.getElem_toList]
    congr 2
    have:s.size - (m + 1) = s.size - 1 - m:=by omega
    simp only [this]
    rfl
   rw [eq]
   exact this
  ·have:s.size - (m + 1) + 1 = s.size - m:=by omega
   rw [this]
   exact h2
theorem isU8_eq {d:TypeDesc} (h:isU8 d = true):d = .int .u8:=by
 cases d with
 | int k => cases k <;> first | rfl | cases h
 | _ => cases h
theorem pk_eq (l:List Nat):pack l 0 = pk l:=rfl
theorem toBytes_ok {o:Oper} {ih:IH → Prop} {s t e:TypeId} {x:Operand} (ho:o.op = .convert s t x) (hs:P.underlying s = some .string) (ht:P.underlying t = some (.slice e)) (he:P.underlying e = some (.int .u8)):OpOK P g (eToBytes ns e x) o ih:=by
 intro cx S h n K _ hk
 change (isT (nat_lit 5) ((opd ns x).1 S) (rowK e (byteL ((opd ns x).1 S).2 ((opd ns x).1 S).3 ((opd ns x).1 S).2) h n fun h m => K (mSl n (nat_lit 0) ((opd ns x).1 S).2 ((opd ns x).1 S).2 (nat_lit 1)) h m)).ok at hk
 change ∃ v h' n',isT (nat_lit 5) ((opd ns x).1 S) (rowK e (byteL ((opd ns x).1 S).2 ((opd ns x).1 S).3 ((opd ns x).1 S).2) h n fun h m => K (mSl n (nat_lit 0) ((opd ns x).1 S).2 ((opd ns x).1 S).2 (nat_lit 1)) h m) = K v h' n' ∧ _
 obtain ⟨h1,e1⟩:=isT_ok hk
 rw [e1] at hk ⊢
 obtain ⟨h2,h3,e1⟩:=rowK_ok hk
 rw [e1]
 refine ⟨_,_,_,rfl,fun ρ a w hE hR next Q hn => ?_⟩
 obtain ⟨b,hb,hb1,hb2⟩:=VR_5 (hR x (by simp [ho,Op.operands])) h1
 have hrun:=run_bytes_of_string (P:=P) w s t e b hs ht he
 have hcap:b.size ≤ grownCap w b.size 0 e:=by unfold grownCap;exact Nat.le_add_right _ _
 have hsz:(bytesRow b (grownCap w b.size 0 e)).size = grownCap w b.size 0 e:=by
  simp [bytesRow]
  have:b.data.size = b.size:=rfl
  omega
 have hrow:∀ ρ:Rho,VRs ρ (byteL ((opd ns x).1 S).2 ((opd ns x).1 S).3 ((opd ns x).1 S).2) ((bytesRow b (grownCap w b.size 0 e)).toList.take (byteL ((opd ns x).1 S).2 ((opd ns x).1 S).3 ((opd ns x).1 S).2).length) ∧
   (byteL ((opd ns x).1 S).2 ((opd ns x).1 S).3 ((opd ns x).1 S).2).length = b.size:=fun ρ => by
  rw [← hb1,← hb2,pk_eq]
  obtain ⟨q1,q2⟩:=byteL_rel (ρ:=ρ) b b.size (Nat.le_refl _)
  rw [q1]
  have:(bytesRow b (grownCap w b.size 0 e)).toList.take b.size = (b.data.toList.map fun b => Value.int .u8 b.toNat).drop (b.size - b.size):=by
   simp only [bytesRow,Array.toList_append,Array.toList_map,Nat.sub_self,List.drop_zero]
   rw [List.take_append_of_le_length (by simp),List.take_of_length_le (by simp)]
  rw [this]
  exact ⟨q2,rfl⟩
 refine wp_value (u:=.slice (some ⟨w.heap.size,0,none⟩) b.size (grownCap w b.size 0 e)) ?_ (hn _ (ρ.up n ⟨w.drew.heap.size,0,(bytesRow b (grownCap w b.size 0 e)).size⟩) _ ?_ ((hE.drew).alloc h3 (OW_rowF (f:=((bytesRow b (grownCap w b.size 0 e)).size,(bytesRow b (grownCap w b.size 0 e)).size + 1)) (hrow _).1 ?_ ?_ h2 fun off hf => ?_)) (Stp.trans Stp.drew (Stp.alloc hE.drew h3)))
 ·simp only [execOp,ho,hb,hrun,Sem.run_bind,Result.andThen_ok,Sem.run_pure]
 ·refine ⟨_,_,grownCap w b.size 0 e,Rho.up_same _ _ _,by rw [← hb1];rfl,fun z => absurd z (by change ¬ (1:Nat) = 0;decide),fun _ => ⟨?_,?_⟩,.inl rfl,?_⟩
  ·change ((opd ns x).1 S).2 ≤ _;omega
  ·change 0 + grownCap w b.size 0 e * 1 ≤ (bytesRow b (grownCap w b.size 0 e)).size
   omega
  ·change ((opd ns x).1 S).2 ≤ _;omega
 ·intro c hc
  have:c ∈ (bytesRow b (grownCap w b.size 0 e)).toList:=List.mem_of_mem_take hc
  simp [bytesRow] at this
  rcases this with ⟨y,_,rfl⟩ | ⟨_,rfl⟩ <;> rfl
 ·rw [(hrow ρ).2];omega
 ·simp at hf;omega
theorem natL_ok:∀ {l:List AV} {a:Nat} {k:Nat → Ans},(natL l a k).ok → (∀ v ∈ l,v.1 = 20) ∧ natL l a k = k (pack (l.map fun v => v.2) a)
 | [],_,_,_ => ⟨by simp,rfl⟩
 | v :: l,a,k,hk => by
  change (isT (nat_lit 20) v (tch (Nat.add (Nat.mul a (nat_lit 256)) v.2) fun a => natL l a k)).ok at hk
  change _ ∧ isT (nat_lit 20) v (tch (Nat.add (Nat.mul a (nat_lit 256)) v.2) fun a => natL l a k) = _
  obtain ⟨h1,e⟩:=isT_ok hk
  rw [e,tch_eq] at hk ⊢
  obtain ⟨h2,e⟩:=natL_ok hk
  exact ⟨by simpa using ⟨h1,h2⟩,e⟩
theorem natL_cells {ρ:Rho}:∀ {l:List AV} {us:List Value},VRs ρ l us → (∀ v ∈ l,v.1 = 20) → ∃ bs:List UInt8,us = bs.map (fun b => Value.int .u8 (b.toNat:Int)) ∧ (l.map fun v => v.2) = bs.map UInt8.toNat
 | [],[],_,_ => ⟨[],rfl,rfl⟩
 | v :: l,u :: us,h,ht => by
  obtain ⟨bs,h1,h2⟩:=natL_cells (l:=l) (us:=us) h.2 fun y hy => ht y (by simp [hy])
  obtain ⟨h3,h4⟩:=VR_i (k:=.u8) h.1 (ht v (by simp))
  have hn:(UInt8.ofNat v.2).toNat = v.2:=by
   rw [UInt8.toNat_ofNat']
   exact Nat.mod_eq_of_lt h3
  refine ⟨UInt8.ofNat v.2 :: bs,?_,?_⟩
  ·rw [h4,h1,List.map_cons,hn,toI_nonneg (show v.2 < hf .u8 from h3)]
  ·rw [List.map_cons,List.map_cons,h2,hn]
 | [],_ :: _,h,_ => h.elim
 | _ :: _,[],h,_ => h.elim
theorem VR_bytes {ρ:Rho} {n s:Nat} {bs:List UInt8} (hn:bs.length = n) (hs:pack (bs.map UInt8.toNat) 0 = s):VR ρ (mStr n s) (.string ⟨bs.toArray⟩):=
 ⟨⟨bs.toArray⟩,rfl,by change bs.toArray.size = n;simpa using hn,by simpa [bytes] using hs⟩
theorem ofBytes_ok {o:Oper} {ih:IH → Prop} {s t e:TypeId} {x:Operand} (ho:o.op = .convert s t x) (hs:P.underlying s = some (.slice e)) (ht:P.underlying t = some .string) (he:P.underlying e = some (.int .u8)):OpOK P g (eOfBytes ns x) o ih:=
 .pure fun cx S h n K hk => by
  change (slK ((opd ns x).1 S) (K (mStr (nat_lit 0) (nat_lit 0)) h n) fun v => bA (Nat.beq v.4.1 (nat_lit 0)) (K (mStr (nat_lit 0) (nat_lit 0)) h n) (rowOf h v.2 fun r => bA (Nat.ble (Nat.add v.3 v.4.1) r.3) (getN v.4.1 v.3 r.4 fun l => natL l (nat_lit 0) fun s => K (mStr v.4.1 s) h n) (.fail 84))).ok at hk
  change ∃ v,(slK ((opd ns x).1 S) (K (mStr (nat_lit 0) (nat_lit 0)) h n) fun v => bA (Nat.beq v.4.1 (nat_lit 0)) (K (mStr (nat_lit 0) (nat_lit 0)) h n) (rowOf h v.2 fun r => bA (Nat.ble (Nat.add v.3 v.4.1) r.3) (getN v.4.1 v.3 r.4 fun l => natL l (nat_lit 0) fun s => K (mStr v.4.1 s) h n) (.fail 84))) = K v h n ∧ _
  have none_ok:∀ (a:Act) (w:World) (ao:Option Addr) (cap:Nat),a.eval x = .slice ao 0 cap → (execOp a.eval o).run P w = .ok (.value (.string ⟨([]:List UInt8).toArray⟩)) w:=fun a w ao cap hu => by
   cases ao with
   | none =>
    simp only [execOp,ho,hu,Sem.run_bind,run_convert_bytes_string w s t e none 0 cap hs he ht,Conv.bytesToString,Sem.run_pure,Result.andThen_ok]
    rfl
   | some A =>
    have:=run_convert_bytes_back (P:=P) w s t e A cap [] hs he ht (fun j hj => by simp at hj)
    simp only [List.length_nil] at this
    simp only [execOp,ho,hu,this,Sem.run_bind,Sem.run_pure,Result.andThen_ok]
  rcases slK_ok hk with ⟨h1,e1⟩ | ⟨h1,h2,e1⟩
  ·rw [e1] at hk ⊢
   by_cases h0:((opd ns x).1 S).4.1 = 0
   ·rw [nbT h0,bA_true]
    refine ⟨_,rfl,fun ρ a w _ hR => ?_⟩
    obtain ⟨pl,A,cap,hp,hu,_⟩:=VR_4 (hR x (by simp [ho,Op.operands])) h1
    rw [h0] at hu
    exact ⟨_,none_ok a w _ _ hu,VR_bytes rfl rfl⟩
   ·rw [nbF h0,bA_false] at hk ⊢
    obtain ⟨hr,e1⟩:=rowOf_ok hk
    rw [e1] at hk ⊢
    obtain ⟨hb,e1⟩:=bA_ok hk
    rw [e1,getN_eq] at hk ⊢
    obtain ⟨h20,e1⟩:=natL_ok hk
    rw [e1]
    refine ⟨_,rfl,fun ρ a w hE hR => ?_⟩
    obtain ⟨pl,A,cap,hp,hu,c1,c2,c3,c4⟩:=VR_4 (hR x (by simp [ho,Op.operands])) h1
    have hA:A = ⟨pl.B,pl.o + ((opd ns x).1 S).3,none⟩:=c3.resolve_right (by omega)
    subst hA
    obtain ⟨_,_,_,hcell,_⟩:=row_of hE hp hr
    obtain ⟨us,g1,g2,_,g4⟩:=cells_list hcell ((opd ns x).1 S).4.1 ((opd ns x).1 S).3 (Nat.le_of_ble_eq_true hb)
    obtain ⟨bs,b1,b2⟩:=natL_cells g4 h20
    have hlen:bs.length = ((opd ns x).1 S).4.1:=by rw [← g1,b1,List.length_map]
    have:=run_convert_bytes_back (P:=P) w s t e ⟨pl.B,pl.o + ((opd ns x).1 S).3,none⟩ cap bs hs he ht (fun j hj => by
     rw [addr_add]
     exact g2 j _ (by rw [b1];simp [hj]))
    rw [hlen] at this
    refine ⟨.string ⟨bs.toArray⟩,?_,VR_bytes hlen (by rw [b2])⟩
    simp only [execOp,ho,hu,this,Sem.run_bind,Sem.run_pure,Result.andThen_ok]
  ·rw [e1]
   refine ⟨_,rfl,fun ρ a w _ hR => ?_⟩
   have hu:=VR_6 (hR x (by simp [ho,Op.operands])) h1
   rw [h2] at hu
   exact ⟨_,none_ok a w _ _ hu,VR_bytes rfl rfl⟩
def DepthOK (P:Program):Prop:=0 < P.depth
theorem lies_self (hD:DepthOK P) {e s R:Nat} (hs:szOf P e = some s) (h0:s ≠ 0) (hR:s ≤ R):liesAt P P.depth e (R / P.cellsOf e) 0 e 1 = true:=by
 obtain ⟨i,hi,hsz⟩:=szOf_info hs
 have hc:P.cellsOf e = s:=by simp [Program.cellsOf,hi,hsz]
 obtain ⟨d,hd⟩:∃ d,P.depth = d + 1:=⟨P.depth - 1,by have:0 < P.depth:=hD;omega⟩
 have hpos:1 ≤ R / s:=(Nat.le_div_iff_mul_le (by omega)).2 (by omega)
 rw [hc,hd]
 simp only [liesAt,rowAt,hd,hc,h0,if_false,Nat.zero_mod,Nat.zero_div,beq_self_eq_true,sameLayout,Bool.true_or,Bool.and_true,Nat.zero_add,Bool.true_and,Bool.or_eq_true]
 left;left
 simpa using hpos
theorem ptrs_ok (hD:DepthOK P) {o:Oper} {ih:IH → Prop} {s t e:TypeId} {sz:Nat} {x:Operand} (ho:o.op = .convert s t x) (hsz:szOf P e = some sz) (h0:sz ≠ 0)
  (hst:(P.underlying s = some (.pointer e) ∧ P.underlying t = some .unsafePointer) ∨ (P.underlying s = some .unsafePointer ∧ P.underlying t = some (.pointer e))):OpOK P g (ePtrs ns sz e x) o ih:=
 .pure fun cx S h n K hk => by
  change (isT (nat_lit 3) ((opd ns x).1 S) (bA (Nat.beq ((opd ns x).1 S).3 (nat_lit 0)) (rowOf h ((opd ns x).1 S).2 fun r => bA (Nat.beq r.2 e) (bA (Nat.beq r.6 (nat_lit 0)) (bA (Nat.ble sz r.3) (K ((opd ns x).1 S) h n) (.fail 85)) (.fail 85)) (.fail 85)) (.fail 85))).ok at hk
  change ∃ v,isT (nat_lit 3) ((opd ns x).1 S) (bA (Nat.beq ((opd ns x).1 S).3 (nat_lit 0)) (rowOf h ((opd ns x).1 S).2 fun r => bA (Nat.beq r.2 e) (bA (Nat.beq r.6 (nat_lit 0)) (bA (Nat.ble sz r.3) (K ((opd ns x).1 S) h n) (.fail 85)) (.fail 85)) (.fail 85)) (.fail 85)) = K v h n ∧ _
  obtain ⟨h1,e1⟩:=isT_ok hk
  rw [e1] at hk ⊢
  obtain ⟨h2,e1⟩:=bA_ok hk
  rw [e1] at hk ⊢
  obtain ⟨hr,e1⟩:=rowOf_ok hk
  rw [e1] at hk ⊢
  obtain ⟨h3,e1⟩:=bA_ok hk
  rw [e1] at hk ⊢
  obtain ⟨h4,e1⟩:=bA_ok hk
  rw [e1] at hk ⊢
  obtain ⟨h5,e1⟩:=bA_ok hk
  rw [e1]
  have h2:((opd ns x).1 S).3 = 0:=Nat.eq_of_beq_eq_true h2
  have h3:(hget h ((opd ns x).1 S).2).2 = e:=Nat.eq_of_beq_eq_true h3
  have h4:(hget h ((opd ns x).1 S).2).6 = 0:=Nat.eq_of_beq_eq_true h4
  have h5:=Nat.le_of_ble_eq_true h5
  refine ⟨_,rfl,fun ρ a w hE hR => ?_⟩
  have hx:=hR x (by simp [ho,Op.operands])
  obtain ⟨pl,hp,hu⟩:=VR_3 hx h1
  have hlive:(hget h ((opd ns x).1 S).2).1 ≠ 0:=by rcases isRow_tag hr with e | e | e <;> omega
  obtain ⟨q,q1,q2,_⟩:=hE.ob _ (hE.bd _ _ hp).1 hlive
  rw [hp] at q1
  cases q1
  obtain ⟨p0,sh,le,_⟩:=q2 hr
  have p0:=p0 h4
  rw [h2,p0] at hu
  rw [p0,h3] at sh
  refine ⟨a.eval x,?_,hx⟩
  obtain ⟨i,hi,his⟩:=szOf_info hsz
  have hrun:(convert s t (.pointer (some ⟨pl.B,0 + 0,none⟩))).run P w = .ok (.pointer (some ⟨pl.B,0 + 0,none⟩)) w:=by
   rcases hst with ⟨a1,a2⟩ | ⟨a1,a2⟩
   ·exact Lib.run_to_unsafe w ⟨pl.B,0 + 0,none⟩ a1 a2 hi (by rw [his];exact h0) sh (by change 0 + 0 < 0 + pl.R;rw [Nat.zero_add,Nat.zero_add];exact Nat.lt_of_lt_of_le (Nat.pos_of_ne_zero h0) (Nat.le_trans h5 le))
   ·refine Lib.run_from_unsafe w ⟨pl.B,0 + 0,none⟩ a1 a2 hi sh ?_
    rw [Nat.zero_add]
    exact lies_self hD hsz h0 (Nat.le_trans h5 le)
  rw [hu]
  simp only [execOp,ho,hu,hrun,Sem.run_bind,Sem.run_pure,Result.andThen_ok]
theorem convert_ok {o:Oper} {ih:IH → Prop} {s t:TypeId} {x:Operand} (ho:o.op = .convert s t x):OpOK P g (eConvert ns P s t x) o ih:=
 oO_ok fun d hd => oO_ok fun d' hd' => by
  cases d with
  | int k =>
   cases d' with
   | int k' => exact convInt_ok ho hd hd'
   | _ => exact badO_ok
  | string =>
   cases d' with
   | string =>
    refine .pure fun cx S h n K hk => ?_
    change (isT (nat_lit 5) ((opd ns x).1 S) (K ((opd ns x).1 S) h n)).ok at hk
    change ∃ v,isT (nat_lit 5) ((opd ns x).1 S) (K ((opd ns x).1 S) h n) = K v h n ∧ _
    obtain ⟨h1,e⟩:=isT_ok hk
    rw [e]
    refine ⟨_,rfl,fun ρ a w _ hR => ?_⟩
    have hx:=hR x (by simp [ho,Op.operands])
    obtain ⟨b,hb,_⟩:=VR_5 hx h1
    refine ⟨a.eval x,?_,hx⟩
    simp only [execOp,ho,hb,convert,run_underlying' hd,run_underlying' hd',Sem.run_bind,Sem.run_pure,Result.andThen_ok]
   | _ => exact badO_ok
  | _ => exact badO_ok
theorem conv_ok (hD:DepthOK P) {o:Oper} {ih:IH → Prop} {s t:TypeId} {x:Operand} (ho:o.op = .convert s t x):OpOK P g (eConv ns P s t x) o ih:=
 oO_ok fun d hd => oO_ok fun d' hd' => by
  have other:OpOK P g (eConvert ns P s t x) o ih:=convert_ok ho
  have ptr:∀ e,((P.underlying s = some (.pointer e) ∧ P.underlying t = some .unsafePointer) ∨ (P.underlying s = some .unsafePointer ∧ P.underlying t = some (.pointer e))) →
    OpOK P g (oO (szOf P e) fun s => bO (Nat.beq s (nat_lit 0)) badO (ePtrs ns s e x)) o ih:=fun e h =>
   oO_ok fun sz hsz => bO_ok (fun _ => badO_ok) fun hz => ptrs_ok hD ho hsz (fun c => by rw [nbT c] at hz;cases hz) h
  cases d with
  | string =>
   cases d' with
   | slice e => exact oO_ok fun de hde => bO_ok (fun h => toBytes_ok ho hd hd' (isU8_eq h ▸ hde)) fun _ => badO_ok
   | _ => exact other
  | slice e =>
   cases d' with
   | string => exact oO_ok fun de hde => bO_ok (fun h => ofBytes_ok ho hd hd' (isU8_eq h ▸ hde)) fun _ => badO_ok
   | _ => exact other
  | pointer e =>
   cases d' with
   | unsafePointer => exact ptr e (.inl ⟨hd,hd'⟩)
   | _ => exact other
  | unsafePointer =>
   cases d' with
   | pointer e => exact ptr e (.inr ⟨hd,hd'⟩)
   | _ => exact other
  | _ => exact other
end EV
end
noncomputable section
namespace EV
open Go
variable {P:Program} {g:Nat} {ns:List Tmp}
theorem tmpG_get {t:Nat} (ht:t < maxTmps) (T:Tmps):(tmpG t).1 T = T.get t:=by
 have hM:maxTmps = 512:=rfl
 unfold tmpG
 by_cases h:t < 64
 ·rw [bltT h]
  have h1:T.get t = getP 2 AV t T.1:=by unfold Tmps.get;rw [if_pos h]
  rw [h1]
  exact (g8_eq _ _).trans (congrArg _ (g8_eq _ _))
 ·rw [bltF h,bltT (show t < 512 by omega)]
  exact tmpF_get t T
theorem tmpG_out {t:Nat} (ht:¬ t < maxTmps) (T:Tmps):(tmpG t).1 T = undefA:=by
 have hM:maxTmps = 512:=rfl
 unfold tmpG
 rw [bltF (show ¬ t < 64 by omega),bltF (show ¬ t < 512 by omega)]
 rfl
theorem cF_run (a:AV) (S:P2 Tmps (Env ns)):(cF ns a).1 S = a:=by
 obtain ⟨t,x,y,z⟩:=a
 change (fT t fun t => fT x fun x => fT y fun y => (⟨fun _ => ⟨t,x,y,z⟩⟩:OpdF ns)).1 S = _
 rw [fT_eq,fT_eq,fT_eq]
structure ActL (ρ:Rho) (nt lc:Nat) (T:Tmps) (a:Act):Prop extends ActR ρ nt T a where
 lo:∀ t,t < maxTmps → memN t lc = true → T.get t = undefA
theorem ActL.mono {ρ ρ':Rho} {nt lc:Nat} {T:Tmps} {a:Act} (h:ActL ρ nt lc T a) (hl:ρ.le ρ'):ActL ρ' nt lc T a:=⟨h.toActR.mono hl,h.lo⟩
theorem ActL.put {ρ:Rho} {nt lc:Nat} {T:Tmps} {a:Act} (h:ActL ρ nt lc T a) {t:Nat} (ht:t < nt) (hm:memN t lc = false) {v:AV} {u:Value} (hv:VR ρ v u) :
  ActL ρ nt lc (T.set t v) (a.put (some t) u):=
 ⟨h.toActR.put ht hv,fun s hs hl => by
  have hne:s ≠ t:=fun e => by rw [e,hm] at hl;cases hl
  rw [Tmps.get_set T t s v (Nat.lt_of_lt_of_le ht h.le) hs,if_neg hne]
  exact h.lo s hs hl⟩
theorem getD_put (a:Act) (t s:Nat) (u:Value) (h:s ≠ t):(a.put (some t) u).tmps.getD s undef = a.tmps.getD s undef:=by
 simp [Act.put,Array.getElem?_setIfInBounds_ne (Ne.symm h)]
theorem ActL.putL {ρ:Rho} {nt lc:Nat} {T:Tmps} {a:Act} (h:ActL ρ nt lc T a) {t:Nat} (ht:t < nt) (hm:memN t lc = true) {u:Value}:ActL ρ nt lc T (a.put (some t) u):=
 ⟨⟨by simp [Act.put,h.sz0],h.le,fun s hs => by
  by_cases e:s = t
  ·subst e
   rw [h.lo s hs hm]
   exact VR_undef
  ·rw [getD_put a t s u e]
   exact h.tm s hs⟩,h.lo⟩
structure EnvR (ρ:Rho) (nt lc:Nat) (ns:List Tmp) (L:Env ns) (a:Act):Prop where
 lo:∀ t ∈ ns,t < nt ∧ memN t lc = true
 vr:∀ t f,envF ns t = some f → VR ρ (f.1 L) (a.tmps.getD t undef)
theorem EnvR.nil {ρ:Rho} {nt lc:Nat} {a:Act}:EnvR ρ nt lc [] PUnit.unit a:=⟨fun t h => by simp at h,fun t f h => by cases h⟩
theorem EnvR.mono {ρ ρ':Rho} {nt lc:Nat} {L:Env ns} {a:Act} (h:EnvR ρ nt lc ns L a) (hl:ρ.le ρ'):EnvR ρ' nt lc ns L a:=⟨h.lo,fun t f hf => (h.vr t f hf).mono hl⟩
theorem envF_mem:∀ {ns:List Tmp} {t:Tmp} {f:EnF ns},envF ns t = some f → t ∈ ns
 | [],t,f,h => by cases h
 | s :: ns,t,f,h => by
  by_cases e:s = t
  ·simp [e]
  ·have h':bK (Nat.beq s t) (some ⟨fun L => L.1⟩) (oK none (envF ns t) fun f => some ⟨fun (L:Env (s :: ns)) => f.1 L.2⟩) = some f:=h
   rw [nbF e] at h'
   obtain ⟨q,h1,_⟩:=oK_some (show oK none (envF ns t) (fun f => some ⟨fun (L:Env (s :: ns)) => f.1 L.2⟩) = some f from h')
   simp [envF_mem h1]
theorem EnvR.put {ρ:Rho} {nt lc:Nat} {L:Env ns} {a:Act} (h:EnvR ρ nt lc ns L a) {t:Nat} (hm:memN t lc = false) {u:Value}:EnvR ρ nt lc ns L (a.put (some t) u):=
 ⟨h.lo,fun s f hf => by
  have hne:s ≠ t:=fun e => by have:=(h.lo s (envF_mem hf)).2;rw [e,hm] at this;cases this
  rw [getD_put a t s u hne]
  exact h.vr s f hf⟩
theorem EnvR.push {ρ:Rho} {nt lc:Nat} {L:Env ns} {a:Act} (h:EnvR ρ nt lc ns L a) {t:Nat} (ht:t < nt) (hm:memN t lc = true) (hsz:a.tmps.size = nt) {v:AV} {u:Value} (hv:VR ρ v u) :
  EnvR ρ nt lc (t :: ns) (⟨v,L⟩:P2 AV (Env ns)) (a.put (some t) u):=
 ⟨fun s hs => by
  rcases List.mem_cons.1 hs with e | e
  ·subst e;exact ⟨ht,hm⟩
  ·exact h.lo s e,
  fun s f hf => by
  have hf:bK (Nat.beq t s) (some ⟨fun L => L.1⟩) (oK none (envF ns s) fun f => some ⟨fun (L:Env (t :: ns)) => f.1 L.2⟩) = some f:=hf
  by_cases e:t = s
  ·subst e
   rw [nbT rfl] at hf
   cases hf
   have:t < a.tmps.size:=by omega
   simpa [Act.put,this] using hv
  ·rw [nbF e] at hf
   obtain ⟨q,h1,h2⟩:=oK_some (show oK none (envF ns s) (fun f => some ⟨fun (L:Env (t :: ns)) => f.1 L.2⟩) = some f from hf)
   cases h2
   rw [getD_put a t s u (Ne.symm e)]
   exact h.vr s q h1⟩
theorem glob_lt {k:Nat} {x:Operand} (h:glob g x = true) (hx:x = .global k):k < g:=by
 subst hx
 exact bltE h
theorem opd_rel {ρ:Rho} {nt lc lk n:Nat} {T:Tmps} {L:Env ns} {h:Heap} {w:World} {a:Act} (hE:Emb g lk ρ h n w) (hA:ActL ρ nt lc T a) (hL:EnvR ρ nt lc ns L a) {x:Operand} (hx:glob g x = true) :
  VR ρ ((opd ns x).1 ⟨T,L⟩) (a.eval x):=by
 cases x with
 | tmp t =>
  change VR ρ ((oK (R:=OpdF ns) ⟨fun S => (tmpG t).1 S.1⟩ (envF ns t) fun f => ⟨fun S => f.1 S.2⟩).1 ⟨T,L⟩) (a.tmps.getD t undef)
  cases hf:envF ns t with
  | none =>
   change VR ρ ((tmpG t).1 T) _
   by_cases ht:t < maxTmps
   ·rw [tmpG_get ht]
    exact hA.tm t ht
   ·rw [tmpG_out ht]
    exact VR_undef
  | some f => exact hL.vr t f hf
 | const v =>
  change VR ρ ((oK (R:=OpdF ns) ⟨fun _ => undefA⟩ (constAV v) (cF ns)).1 ⟨T,L⟩) v
  cases hc:constAV v with
  | none => exact VR_undef
  | some c =>
   change VR ρ ((cF ns c).1 ⟨T,L⟩) v
   rw [cF_run]
   exact constAV_rel hc
 | global k =>
  obtain ⟨R,hR⟩:=hE.gl k (glob_lt hx rfl)
  exact VR_mPtr (o:=0) hR
 | func f => exact VR_mFn (l:=[]) (m:=[]) (a:=#[]) (b:=#[]) trivial trivial
structure Df (lo:Nat) (ρ:Rho) (h:Heap) (n:Nat) (w:World) (ds:List Deferred):Prop where
 al:∀ d ∈ ds,∃ D,d = { target:=.collected D,args:=#[] } ∧ lo ≤ D ∧ w.heap[D]? = some (.deferred (some [])) ∧ ∀ b pl,b < n → (hget h b).1 ≠ 0 → ρ b = some pl → pl.B ≠ D
 nd:ds.Nodup
theorem Df.nil {lo:Nat} {ρ:Rho} {h:Heap} {n:Nat} {w:World}:Df lo ρ h n w []:=⟨fun d hd => by simp at hd,List.nodup_nil⟩
theorem Df.step {lo g lk:Nat} {ρ ρ':Rho} {h h':Heap} {n n':Nat} {w w':World} {ds:List Deferred} (hd:Df lo ρ h n w ds) (hE:Emb g lk ρ h n w) (s:Stp lk ρ h n w ρ' h' n' w'):Df lo ρ' h' n' w' ds:=by
 refine ⟨fun d hm => ?_,hd.nd⟩
 obtain ⟨D,e,hlo,hw,hn⟩:=hd.al d hm
 have hD:D < w.heap.size:=(Array.getElem?_eq_some_iff.1 hw).1
 refine ⟨D,e,hlo,?_,?_⟩
 ·rw [s.unt D hD (fun b pl _ h2 h3 h4 => hn b pl h2 h3 h4)];exact hw
 ·intro b pl h1 h2 h3 he
  by_cases hb:b < lk
  ·rw [s.lck b hb] at h2
   have hbn:b < n:=Nat.lt_of_lt_of_le hb hE.kn
   obtain ⟨pl0,hp0,_⟩:=hE.ob b hbn h2
   have h5:=s.ext b pl0 hp0
   rw [h3] at h5
   cases h5
   exact hn b pl hbn h2 hp0 he
  ·obtain ⟨b0,pl0,g1,g2,g3,g4,g5⟩:=s.own b pl (by omega) h1 h2 h3 (by omega)
   exact hn b0 pl0 g2 g3 g4 (g5.trans he)
theorem put_defers (a:Act) (d:Option Tmp) (u:Value):(a.put d u).defers = a.defers:=by cases d <;> rfl
def FR (ro:Option Nat):Fence:={ fn:=fun _ => True,depth:=none,alive:=false,round:=ro }
theorem FR_room (ro:Option Nat) (n:Nat):(FR ro).room n:=fun _ h => by simp [FR] at h
theorem FR_fenced (ro:Option Nat) (m:Machine):m.fenced P (FR ro):=fenced_wide P m
theorem callsIn_FR {ro:Option Nat} {n:Nat} {f:FuncId} {args:Array Value} {w:World} {R:Ending → World → Prop}:CallsIn (FR ro) n P f args w R ↔ Calls P f args w R:=
 ⟨fun h cs => let ⟨e,w',fr,r,s,x⟩:=h.2 cs (FR_room _ _);⟨e,w',fr,r,ComesIn.comes s,x⟩,
  fun h => (callsIn_wide (n:=n)).2 h⟩
theorem wp_in {ro:Option Nat} {n:Nat} {o:Oper} (hd:∀ c,o.op ≠ .defer c) {a:Act} {w:World} {K:Act → World → Prop} {Q:Exit → Act → World → Prop} (h:o.wp P a w K Q):o.wpIn (FR ro) n P a w K Q:=by
 refine ⟨fun _ _ => trivial,?_⟩
 rw [Oper.semAt_eq _ _ _ hd]
 unfold Oper.wp at h
 generalize (execOp a.eval o).run P w = r at h ⊢
 cases r with
 | ok x w' =>
  cases x <;> simp only [Oper.upon,Oper.uponIn] at h ⊢
  case value => exact h
  case skip => exact h
  case defer => exact h
  case enter f args => exact ⟨fun hh => by simp [FR] at hh,callsIn_FR.2 (Calls.mono h fun e w'' he => by cases e <;> exact he)⟩
  case row r args => exact ⟨fun hh => by simp [FR] at hh,fun c cs _ => let ⟨v,w'',r,s⟩:=h c cs;⟨v,w'',r,stepsIn_wide.2 s⟩⟩
 | halt x w' => cases x <;> simp only [Oper.upon,Oper.uponIn] at h ⊢ <;> exact h
def exR:Ex → Exit → Prop
 | .normal,.normal => True
 | .exit i,.exit j => i = j
 | .ret,.ret => True
 | _,_ => False
def Post (g lk nt lc lo:Nat) (ρ:Rho) (h:Heap) (n:Nat) (w:World) (e:Ex) (T':Tmps) (h':Heap) (n':Nat):Exit → Act → World → Prop:=fun e' a' w' =>
 exR e e' ∧ ∃ ρ',ActL ρ' nt lc T' a' ∧ Df lo ρ' h' n' w' a'.defers ∧ Emb g lk ρ' h' n' w' ∧ Stp lk ρ h n w ρ' h' n' w'
theorem Post.step {lk nt lc lo:Nat} {ρ ρ1:Rho} {h h1:Heap} {n n1:Nat} {w w1:World} {e:Ex} {T':Tmps} {h':Heap} {n':Nat} (s:Stp lk ρ h n w ρ1 h1 n1 w1) {e':Exit} {a':Act} {w':World}
  (p:Post g lk nt lc lo ρ1 h1 n1 w1 e T' h' n' e' a' w'):Post g lk nt lc lo ρ h n w e T' h' n' e' a' w':=by
 obtain ⟨p1,ρ',p2,pd,p3,p4⟩:=p
 exact ⟨p1,ρ',p2,pd,p3,s.trans p4⟩
def IHok (P:Program) (g:Nat) (I:IH):Prop:=
 ∀ nt lc c lk T h n e T' h' n',I nt lc c lk T h n = .fin e T' h' n' → ∀ ro,(ro = none ∨ flatC c = true) → ∀ ρ a w lo,Emb g lk ρ h n w → ActL ρ nt lc T a → Df lo ρ h n w a.defers → lo ≤ w.heap.size →
  c.wpIn (FR ro) 0 P (Post g lk nt lc lo ρ h n w e T' h' n') a w ∧
  (∀ c',c = .loop c' → ∀ (b:Frame) (k:List Item) (cs:List Frame),b.roundOf = ro → ∃ e' a' w',Post g lk nt lc lo ρ h n w e T' h' n' e' a' w' ∧ ArrivesIn (Machine.fenced P (FR ro)) P (lone (b.atR a (.inLoop c' :: k)) cs w) b k cs e' a' w')
def RFok (P:Program) (g nt lc:Nat) (all:Array Oper) (l:List Oper) (f:(ns:List Tmp) → RF ns):Prop:=
 ∀ (ns:List Tmp) (cx:Cx) (T:Tmps) (L:Env ns) (h:Heap) (n:Nat) (e:Ex) (T':Tmps) (h':Heap) (n':Nat),IHok P g cx.2 → (f ns).1 cx T L h n = .fin e T' h' n' →
  ∀ ro ρ a w lo,Emb g cx.1 ρ h n w → ActL ρ nt lc T a → Df lo ρ h n w a.defers → EnvR ρ nt lc ns L a → ∀ Q:Exit → Act → World → Prop,(∀ e' a' w',Post g cx.1 nt lc lo ρ h n w e T' h' n' e' a' w' → Q e' a' w') → wpListIn (FR ro) 0 P all Q l a w
theorem nx_ok {nt lc:Nat} {all:Array Oper} {l:List Oper} {rest:(ns:List Tmp) → RF ns} (hr:RFok P g nt lc all l rest) {d:Option Tmp} {cx:Cx} {T:Tmps} {L:Env ns} {v:AV} {h:Heap} {n:Nat} {e:Ex} {T':Tmps} {h':Heap} {n':Nat}
  (hI:IHok P g cx.2) (hk:(nxF nt lc d ns rest).1 cx T L v h n = .fin e T' h' n') (ro:Option Nat) {ρ:Rho} {a:Act} {w:World} {lo:Nat} {u:Value} (hv:VR ρ v u) (hE:Emb g cx.1 ρ h n w) (hA:ActL ρ nt lc T a) (hD:Df lo ρ h n w a.defers) (hL:EnvR ρ nt lc ns L a)
  (Q:Exit → Act → World → Prop) (hQ:∀ e' a' w',Post g cx.1 nt lc lo ρ h n w e T' h' n' e' a' w' → Q e' a' w'):wpListIn (FR ro) 0 P all Q l (a.put d u) w:=by
 have hD':=put_defers a d u ▸ hD
 cases d with
 | none => exact hr ns cx T L h n e T' h' n' hI hk ro ρ a w lo hE hA hD hL Q hQ
 | some t =>
  have hk:(bK (R:=NxF ns) (Nat.blt t nt) (bK (memN t lc) ⟨fun cx T L v h n => (rest (t :: ns)).1 cx T ⟨v,L⟩ h n⟩ ⟨fun cx T L v h n => (tmpF t).2 v T fun T => (rest ns).1 cx T L h n⟩) ⟨fun _ _ _ _ _ _ => .fail 70⟩).1 cx T L v h n = .fin e T' h' n':=hk
  cases ht:Nat.blt t nt with
  | false => rw [ht] at hk;cases hk
  | true =>
   rw [ht] at hk
   have ht:=bltE ht
   cases hm:memN t lc with
   | true =>
    rw [hm] at hk
    exact hr (t :: ns) cx T ⟨v,L⟩ h n e T' h' n' hI hk ro ρ (a.put (some t) u) w lo hE (hA.putL ht hm) hD' (hL.push ht hm hA.sz0 hv) Q hQ
   | false =>
    rw [hm] at hk
    have hk:((tmpF t).2 v T fun T => (rest ns).1 cx T L h n) = .fin e T' h' n':=hk
    rw [tmpF_put] at hk
    exact hr ns cx (T.set t v) L h n e T' h' n' hI hk ro ρ (a.put (some t) u) w lo hE (hA.put ht hm hv) hD' (hL.put hm) Q hQ
def OpsOK (P:Program) (g:Nat) (H:Nat → HE):Prop:=∀ (ns:List Tmp) (o:Oper),OpOK P g (opF ns P H o.op) o (IHok P g)
theorem fin_ok {x:Ans} {e:Ex} {T:Tmps} {h:Heap} {n:Nat} (hx:x = .fin e T h n):x.ok:=by rw [hx];trivial
theorem undef_rel {ρ:Rho}:VR ρ (mTup []) undef:=VR_mTup (l:=[]) (cs:=#[]) trivial
theorem globs_mem {op:Op} (hg:globs P op = true) {y:Operand} (hy:y ∈ op.operands):glob P.globals.size y = true:=by
 unfold globs at hg
 exact List.all_eq_true.1 hg y (by simpa using hy)
theorem ops_ok {H:Nat → HE} (hO:OpsOK P P.globals.size H) (nt lc:Nat) (all:Array Oper):∀ l:List Oper,RFok P P.globals.size nt lc all l (opsF P H nt lc all l)
 | [] => fun ns cx T L h n e T' h' n' _ hk ro ρ a w lo hE hA hD _ Q hQ => by
  have hk:Ans.fin .normal T h n = .fin e T' h' n':=hk
  cases hk
  exact hQ _ _ _ ⟨trivial,ρ,hA,hD,hE,Stp.refl _ _ _ _ _⟩
 | o :: l => fun ns cx T L h n e T' h' n' hI hk ro ρ a w lo hE hA hD hL Q hQ => by
  have ih:=ops_ok hO nt lc all l
  have hk:(bK (globs P o.op) (Option.rec (motive:=fun _ => RF ns)
   ⟨fun cx T L h n => (opF ns P H o.op).1 cx ⟨T,L⟩ h n ((nxF nt lc o.dst ns (opsF P H nt lc all l)).1 cx T L)⟩
   (fun g => ⟨fun cx T L h n => (gdF ns g.2 (dstOf all g.1)).1 ⟨T,L⟩
    ((opF ns P H o.op).1 cx ⟨T,L⟩ h n ((nxF nt lc o.dst ns (opsF P H nt lc all l)).1 cx T L))
    ((nxF nt lc o.dst ns (opsF P H nt lc all l)).1 cx T L (mTup []) h n)⟩) o.guard) ⟨fun _ _ _ _ _ => .fail 92⟩).1 cx T L h n = .fin e T' h' n':=hk
  cases hg:globs P o.op with
  | false => rw [hg] at hk;cases hk
  | true =>
   rw [hg] at hk
   have run:(opF ns P H o.op).1 cx ⟨T,L⟩ h n ((nxF nt lc o.dst ns (opsF P H nt lc all l)).1 cx T L) = .fin e T' h' n' → ∀ K:Act → World → Prop,(∀ a w,wpListIn (FR ro) 0 P all Q l a w → K a w) → o.wpIn (FR ro) 0 P a w K Q:=fun hk K hK => by
    have hnd:∀ c,o.op ≠ .defer c:=fun c hc => by rw [hc] at hk;cases hk
    obtain ⟨v,h1,n1,e1,hstep⟩:=hO ns o cx ⟨T,L⟩ h n _ hI (fin_ok hk)
    rw [e1] at hk
    refine wp_in hnd (hstep ρ a w hE (fun y hy => opd_rel hE hA hL (globs_mem hg hy)) K Q fun u ρ1 w1 hv hE1 hS => hK _ _ ?_)
    exact nx_ok ih hI hk ro hv hE1 (hA.mono hS.ext) (hD.step hE hS) (hL.mono hS.ext) Q fun e' a' w' hp => hQ _ _ _ (Post.step hS hp)
   have skip:(nxF nt lc o.dst ns (opsF P H nt lc all l)).1 cx T L (mTup []) h n = .fin e T' h' n' → wpListIn (FR ro) 0 P all Q l (a.put o.dst undef) w:=fun hk => nx_ok ih hI hk ro undef_rel hE hA hD hL Q hQ
   refine wpListIn_step fun K hK => ?_
   cases hgd:o.guard with
   | none =>
    rw [hgd] at hk
    rw [if_pos (by simp [Region.wanted,hgd])]
    exact run hk K hK
   | some q =>
    rw [hgd] at hk
    have hk:(gdF ns q.2 (dstOf all q.1)).1 ⟨T,L⟩ ((opF ns P H o.op).1 cx ⟨T,L⟩ h n ((nxF nt lc o.dst ns (opsF P H nt lc all l)).1 cx T L)) ((nxF nt lc o.dst ns (opsF P H nt lc all l)).1 cx T L (mTup []) h n) = .fin e T' h' n':=hk
    have hwant:Region.wanted o (yielded all a.tmps) = (yielded all a.tmps q.1 == some q.2):=by simp [Region.wanted,hgd]
    have yd:∀ j,yielded all a.tmps j = (match (dstOf all j).bind (a.tmps[·]?) with | some (.bool b) => some b | _ => none):=fun j => rfl
    have claim:(Region.wanted o (yielded all a.tmps) = true ∧ (opF ns P H o.op).1 cx ⟨T,L⟩ h n ((nxF nt lc o.dst ns (opsF P H nt lc all l)).1 cx T L) = .fin e T' h' n') ∨
      (Region.wanted o (yielded all a.tmps) = false ∧ (nxF nt lc o.dst ns (opsF P H nt lc all l)).1 cx T L (mTup []) h n = .fin e T' h' n'):=by
     rw [hwant]
     cases hd:dstOf all q.1 with
     | none =>
      rw [hd] at hk
      right
      refine ⟨?_,hk⟩
      rw [yd,hd]
      rfl
     | some t =>
      rw [hd] at hk
      have hv:=opd_rel hE hA hL (x:=.tmp t) rfl
      have hev:a.eval (.tmp t) = a.tmps.getD t undef:=rfl
      have two:((opd ns (.tmp t)).1 ⟨T,L⟩).1 = 2 → yielded all a.tmps q.1 = some (Nat.beq ((opd ns (.tmp t)).1 ⟨T,L⟩).2 1):=fun h2 => by
       have:=VR_2 hv h2
       rw [hev,Array.getD_eq_getD_getElem?] at this
       rw [yd,hd,Option.bind_some]
       cases hq:a.tmps[t]? with
       | none => rw [hq] at this;cases this
       | some y =>
        rw [hq] at this
        have this:y = _:=this
        rw [this]
      have eight:((opd ns (.tmp t)).1 ⟨T,L⟩).1 = 8 → yielded all a.tmps q.1 = none:=fun h8 => by
       obtain ⟨cs,hc,_⟩:=VR_8 hv h8
       rw [hev,Array.getD_eq_getD_getElem?] at hc
       rw [yd,hd,Option.bind_some]
       cases hq:a.tmps[t]? with
       | none => rfl
       | some y =>
        rw [hq] at hc
        have hc:y = _:=hc
        rw [hc]
      obtain ⟨q1,q2⟩:=q
      have form:bA (Nat.beq ((opd ns (.tmp t)).1 ⟨T,L⟩).1 (nat_lit 2)) (bA (Nat.beq ((opd ns (.tmp t)).1 ⟨T,L⟩).2 (nat_lit 1))
        (if q2 then (opF ns P H o.op).1 cx ⟨T,L⟩ h n ((nxF nt lc o.dst ns (opsF P H nt lc all l)).1 cx T L) else (nxF nt lc o.dst ns (opsF P H nt lc all l)).1 cx T L (mTup []) h n)
        (if q2 then (nxF nt lc o.dst ns (opsF P H nt lc all l)).1 cx T L (mTup []) h n else (opF ns P H o.op).1 cx ⟨T,L⟩ h n ((nxF nt lc o.dst ns (opsF P H nt lc all l)).1 cx T L)))
        (bA (Nat.beq ((opd ns (.tmp t)).1 ⟨T,L⟩).1 (nat_lit 8)) ((nxF nt lc o.dst ns (opsF P H nt lc all l)).1 cx T L (mTup []) h n) (.fail 71)) = .fin e T' h' n':=by
       cases q2
       ·exact hk
       ·exact hk
      by_cases h2:((opd ns (.tmp t)).1 ⟨T,L⟩).1 = 2
      ·rw [nbT h2,bA_true] at form
       rw [two h2]
       cases hb:Nat.beq ((opd ns (.tmp t)).1 ⟨T,L⟩).2 1 with
       | true =>
        rw [hb,bA_true] at form
        cases q2 with
        | true => exact .inl ⟨rfl,form⟩
        | false => exact .inr ⟨rfl,form⟩
       | false =>
        rw [hb,bA_false] at form
        cases q2 with
        | true => exact .inr ⟨rfl,form⟩
        | false => exact .inl ⟨rfl,form⟩
      ·rw [nbF h2,bA_false] at form
       obtain ⟨h3,e3⟩:=bA_ok (fin_ok form)
       rw [e3] at form
       rw [eight (Nat.eq_of_beq_eq_true h3)]
       exact .inr ⟨rfl,form⟩
    rcases claim with ⟨c1,c2⟩ | ⟨c1,c2⟩
    ·rw [if_pos c1]
     exact run c2 K hK
    ·rw [if_neg (by rw [c1];exact Bool.false_ne_true)]
     exact ⟨fun _ _ => trivial,hK _ _ (skip c2)⟩
end EV
end
noncomputable section
namespace EV
open Go
variable {P:Program} {g:Nat} {H:Nat → HE} {nt lc pk fM:Nat} {ops:Array Oper}
theorem memN_testBit (t m:Nat):memN t m = m.testBit t:=by
 have e:Nat.shiftRight m t = m / 2 ^ t:=Nat.shiftRight_eq_div_pow m t
 have h:Nat.mod (m / 2 ^ t) 2 = m / 2 ^ t % 2:=rfl
 unfold memN
 rw [Nat.testBit_eq_decide_div_mod_eq,e,h]
 by_cases h1:m / 2 ^ t % 2 = 1
 ·rw [nbT h1,decide_eq_true h1]
 ·rw [nbF h1,decide_eq_false h1]
theorem memN_lor (t a b:Nat):memN t (Nat.lor a b) = (memN t a || memN t b):=by
 simp only [memN_testBit]
 exact Nat.testBit_or a b t
theorem memN_land (t a b:Nat):memN t (Nat.land a b) = (memN t a && memN t b):=by
 simp only [memN_testBit]
 exact Nat.testBit_and a b t
theorem memN_bit (t j:Nat):memN t (bit j) = decide (t = j):=by
 rw [memN_testBit]
 have e:bit j = 2 ^ j:=Nat.one_shiftLeft j
 rw [e,Nat.testBit_two_pow]
 by_cases h:t = j
 ·subst h;simp
 ·have h':¬ j = t:=fun e => h e.symm
  simp [h,h']
theorem memN_zero (t:Nat):memN t 0 = false:=by rw [memN_testBit];exact Nat.zero_testBit t
theorem land_zero {a b:Nat} (h:Nat.beq (Nat.land a b) 0 = true) {t:Nat} (ha:memN t a = true):memN t b = false:=by
 have h0:Nat.land a b = 0:=Nat.eq_of_beq_eq_true h
 have h1:=memN_land t a b
 rw [h0,memN_zero,ha] at h1
 simpa using h1.symm
theorem land_zero_iff {a b:Nat} (h:∀ t,memN t a = true → memN t b = false):Nat.beq (Nat.land a b) 0 = true:=by
 refine nbT (Nat.eq_of_testBit_eq fun t => ?_)
 have h1:=memN_land t a b
 rw [memN_testBit] at h1
 rw [Nat.zero_testBit,h1]
 cases ha:memN t a with
 | false => rfl
 | true => rw [h t ha];rfl
theorem land_self {a b:Nat} (h:Nat.beq (Nat.land a b) a = true) {t:Nat} (ha:memN t a = true):memN t b = true:=by
 have h0:Nat.land a b = a:=Nat.eq_of_beq_eq_true h
 have h1:=memN_land t a b
 rw [h0,ha] at h1
 simpa using h1.symm
theorem bK_t {a b:Bool} (h:bK a b false = true):a = true ∧ b = true:=by cases a <;> cases b <;> first | exact ⟨rfl,rfl⟩ | cases h
theorem bK_imp {a b:Bool} (h:bK a b true = true) (ha:a = true):b = true:=by subst ha;exact h
theorem allI_spec {p:Nat → Oper → Bool}:∀ {l:List Oper} {i:Nat},allI p l i = true → ∀ k o,l[k]? = some o → p (i + k) o = true
 | [],_,_,k,o,h => by simp at h
 | x :: l,i,hp,k,o,h => by
  have hp:bK (p i x) (fT (Nat.succ i) (allI p l)) false = true:=hp
  rw [fT_eq] at hp
  obtain ⟨h1,h2⟩:=bK_t hp
  cases k with
  | zero => simp at h;subst h;exact h1
  | succ k =>
   have:=allI_spec h2 k o (by simpa using h)
   rwa [show Nat.succ i + k = i + (k + 1) by omega] at this
theorem allE_spec {p:Edge → Bool}:∀ {l:List Edge},allE p l = true → ∀ e ∈ l,p e = true
 | [],_,e,h => by simp at h
 | x :: l,hp,e,h => by
  obtain ⟨h1,h2⟩:=bK_t (show bK (p x) (allE p l) false = true from hp)
  rcases List.mem_cons.1 h with rfl | h
  ·exact h1
  ·exact allE_spec h2 e h
theorem allT_spec {p:Nat → Bool}:∀ {l:List Nat},allT p l = true → ∀ e ∈ l,p e = true
 | [],_,e,h => by simp at h
 | x :: l,hp,e,h => by
  obtain ⟨h1,h2⟩:=bK_t (show bK (p x) (allT p l) false = true from hp)
  rcases List.mem_cons.1 h with rfl | h
  ·exact h1
  ·exact allT_spec h2 e h
theorem isTmp_eq {t:Tmp} {d:Option Tmp}:isTmp t d = true ↔ d = some t:=by
 cases d with
 | none => exact ⟨fun h => (by cases h),fun h => (by cases h)⟩
 | some s =>
  change Nat.beq s t = true ↔ _
  exact ⟨fun h => by rw [Nat.eq_of_beq_eq_true h],fun h => by cases h;exact Nat.beq_refl _⟩
theorem ops_at {j:Nat} {o:Oper} (h:ops[j]? = some o):ops.toList[j]? = some o:=by simpa using h
theorem all_ops {p:Nat → Oper → Bool} (h:allI p ops.toList 0 = true) {j:Nat} {o:Oper} (hj:ops[j]? = some o):p j o = true:=by
 have:=allI_spec h j o (ops_at hj)
 rwa [Nat.zero_add] at this
structure Chk (g nt lc pk fM:Nat) (ops:Array Oper):Prop where
 sz:ops.size ≤ 64
 an:∀ (j:Nat) (o:Oper),ops[j]? = some o → m64 pk j = edM pk o.after.toList
 ed:∀ (j:Nat) (o:Oper),ops[j]? = some o → ∀ e ∈ o.after,bindsE e = true → e.on < j
 wr:∀ (j:Nat) (o:Oper),ops[j]? = some o → ∀ t ∈ wtOf ops o,∀ (i:Nat) (oi:Oper),ops[i]? = some oi → oi.dst = some t → wrOK pk fM j o i = true
 dd:∀ (i j:Nat) (oi oj:Oper) t,ops[i]? = some oi → ops[j]? = some oj → oi.dst = some t → oj.dst = some t → i = j
 dt:∀ (j:Nat) (o:Oper) t,ops[j]? = some o → o.dst = some t → t < nt ∧ memN t lc = false
 gl:∀ (j:Nat) (o:Oper),ops[j]? = some o → ∀ y ∈ o.op.operands,glob g y = true
 al:∀ (j:Nat) (o:Oper),ops[j]? = some o → kindOf o.op = 1 → o.guard = none ∧ ∃ t,o.dst = some t
 ch:chain pk (fullL ops.toList 0) = true
 fm:fM = fullM ops.toList 0
theorem chk_of (h1:Nat.ble ops.size 64 = true) (h2:allI (chkD g nt lc pk (fullM ops.toList 0) ops) ops.toList 0 = true) (h3:chain pk (fullL ops.toList 0) = true):Chk g nt lc pk (fullM ops.toList 0) ops:=by
 have key:∀ j o,ops[j]? = some o → chkD g nt lc pk (fullM ops.toList 0) ops j o = true:=fun j o h => all_ops h2 h
 refine ⟨Nat.le_of_ble_eq_true h1,fun j o h => ?_,fun j o h e he hb => ?_,fun j o h t ht i oi hi hd => ?_,fun i j oi oj t hi hj di dj => ?_,fun j o t h hd => ?_,fun j o h y hy => ?_,fun j o h hk => ?_,h3,rfl⟩
 ·exact Nat.eq_of_beq_eq_true (bK_t (key j o h)).1
 ·obtain ⟨a,b⟩:=bK_t (key j o h)
  exact bltE (bK_imp (allE_spec (bK_t b).1 e (by simpa using he)) hb)
 ·obtain ⟨a,b⟩:=bK_t (key j o h)
  have:=all_ops (allT_spec (bK_t (bK_t b).2).1 t ht) hi
  exact bK_imp this (isTmp_eq.2 hd)
 ·obtain ⟨a,b⟩:=bK_t (key j oj hj)
  have:=all_ops (bK_t (bK_t (bK_t b).2).2).1 hi
  by_cases e:i = j
  ·exact e
  ·have this:bK (Nat.beq i j) true (noTmp oj.dst oi.dst) = true:=this
   rw [nbF e] at this
   have this:noTmp oj.dst oi.dst = true:=this
   rw [dj,di] at this
   have this:(!(Nat.beq t t)) = true:=this
   rw [Nat.beq_refl] at this
   cases this
 ·obtain ⟨a,b⟩:=bK_t (key j o h)
  have:=(bK_t (bK_t (bK_t (bK_t b).2).2).2).1
  rw [hd] at this
  obtain ⟨c,d⟩:=bK_t (show bK (Nat.blt t nt) (Bool.not (memN t lc)) false = true from this)
  exact ⟨bltE c,by cases hm:memN t lc with | false => rfl | true => rw [hm] at d;cases d⟩
 ·obtain ⟨a,b⟩:=bK_t (key j o h)
  have:=(bK_t (bK_t (bK_t (bK_t (bK_t b).2).2).2).2).1
  exact List.all_eq_true.1 this y (by simpa using hy)
 ·obtain ⟨a,b⟩:=bK_t (key j o h)
  have:=(bK_t (bK_t (bK_t (bK_t (bK_t b).2).2).2).2).2
  have this:=bK_imp this (nbT hk)
  obtain ⟨c,d⟩:=bK_t this
  refine ⟨?_,?_⟩
  ·cases hg:o.guard with
   | none => rfl
   | some q => rw [hg] at c;cases c
  ·cases hd:o.dst with
   | none => rw [hd] at d;cases d
   | some t => exact ⟨t,rfl⟩
theorem edM_mem {t:Nat}:∀ {l:List Edge},memN t (edM pk l) = true → ∃ e ∈ l,bindsE e = true ∧ (t = e.on ∨ memN t (m64 pk e.on) = true)
 | [],h => by
  have h:memN t 0 = true:=h
  rw [memN_zero] at h
  cases h
 | e :: l,h => by
  have h:memN t (bK (bindsE e) (Nat.lor (Nat.lor (bit e.on) (m64 pk e.on)) (edM pk l)) (edM pk l)) = true:=h
  cases hb:bindsE e with
  | false =>
   rw [hb] at h
   obtain ⟨e',h1,h2⟩:=edM_mem (l:=l) h
   exact ⟨e',by simp [h1],h2⟩
  | true =>
   rw [hb] at h
   have h:memN t (Nat.lor (Nat.lor (bit e.on) (m64 pk e.on)) (edM pk l)) = true:=h
   rw [memN_lor,memN_lor,memN_bit] at h
   by_cases h1:t = e.on
   ·exact ⟨e,by simp,hb,.inl h1⟩
   ·by_cases h2:memN t (m64 pk e.on) = true
    ·exact ⟨e,by simp,hb,.inr h2⟩
    ·simp only [h1,decide_false,Bool.false_or,Bool.or_eq_true] at h
     rcases h with h | h
     ·exact absurd h h2
     ·obtain ⟨e',h1,h2⟩:=edM_mem (l:=l) h
      exact ⟨e',by simp [h1],h2⟩
theorem op_at {j:Nat} (h:j < ops.size):∃ o,ops[j]? = some o:=⟨ops[j],by simp [h]⟩
theorem lt_of_op {j:Nat} {o:Oper} (h:ops[j]? = some o):j < ops.size:=(Array.getElem?_eq_some_iff.1 h).1
theorem anc_lt (hC:Chk g nt lc pk fM ops) {i:Nat}:∀ {j:Nat} {o:Oper},ops[j]? = some o → memN i (m64 pk j) = true → i < j:=by
 intro j
 induction j using Nat.strongRecOn with
 | _ j ih =>
  intro o hj h
  rw [hC.an j o hj] at h
  obtain ⟨e,h1,h2,h3⟩:=edM_mem h
  have h4:=hC.ed j o hj e (by simpa using h1) h2
  rcases h3 with rfl | h3
  ·exact h4
  ·obtain ⟨o',ho'⟩:=op_at (ops:=ops) (j:=e.on) (by have:=lt_of_op hj;omega)
   exact Nat.lt_trans (ih e.on h4 ho' h3) h4
theorem binds_any (e:Edge):Region.binds .any e = bindsE e:=by
 cases e with
 | mk on gr => cases gr <;> rfl
abbrev Lst (listed:Array Bool) (j:Nat):Prop:=listed.getD j false = true
def Cls (ops:Array Oper) (listed:Array Bool):Prop:=∀ (j:Nat) (o:Oper),ops[j]? = some o → Lst listed j → ∀ e ∈ o.after,bindsE e = true → Lst listed e.on
theorem anc_of_edges (hC:Chk g nt lc pk fM ops) {listed:Array Bool} (hc:Cls ops listed) {i:Nat}:∀ {j:Nat} {o:Oper},ops[j]? = some o → (∀ e ∈ o.after,bindsE e = true → Lst listed e.on) → memN i (m64 pk j) = true → Lst listed i:=by
 intro j
 induction j using Nat.strongRecOn with
 | _ j ih =>
  intro o hj he h
  rw [hC.an j o hj] at h
  obtain ⟨e,h1,h2,h3⟩:=edM_mem h
  have h1:e ∈ o.after:=by simpa using h1
  have h4:=hC.ed j o hj e h1 h2
  have h5:=he e h1 h2
  rcases h3 with rfl | h3
  ·exact h5
  ·obtain ⟨o',ho'⟩:=op_at (ops:=ops) (j:=e.on) (by have:=lt_of_op hj;omega)
   exact ih e.on h4 ho' (hc e.on o' ho' h5) h3
theorem anc_listed (hC:Chk g nt lc pk fM ops) {listed:Array Bool} (hc:Cls ops listed) {i j:Nat} {o:Oper} (hj:ops[j]? = some o) (hl:Lst listed j) (h:memN i (m64 pk j) = true):Lst listed i:=
 anc_of_edges hC hc hj (hc j o hj hl) h
theorem ready_edges {listed:Array Bool} {j:Nat} (h:j ∈ Region.ready .any ops listed):listed.getD j true = false ∧ ∃ o,ops[j]? = some o ∧ ∀ e ∈ o.after,bindsE e = true → Lst listed e.on:=by
 obtain ⟨h1,o,h2,h3⟩:=mem_ready.1 h
 exact ⟨h1,o,h2,fun e he hb => h3 e he (by rw [binds_any];exact hb)⟩
theorem ready_none (hC:Chk g nt lc pk fM ops) {listed:Array Bool} (hs:listed.size = ops.size) (h:Region.ready .any ops listed = []):∀ j,j < ops.size → Lst listed j:=by
 intro j
 induction j using Nat.strongRecOn with
 | _ j ih =>
  intro hj
  obtain ⟨o,ho⟩:=op_at hj
  cases hl:listed.getD j false with
  | true => exact hl
  | false =>
   have hm:j ∈ Region.ready .any ops listed:=mem_ready.2 ⟨by
    have hj':j < listed.size:=by omega
    simp [hj'] at hl ⊢
    exact hl,o,ho,fun e he hb => by
     rw [binds_any] at hb
     have h4:=hC.ed j o ho e he hb
     exact ih e.on h4 (by omega)⟩
   rw [h] at hm
   cases hm
theorem Lst_set {listed:Array Bool} {i j:Nat} (hi:i < listed.size):Lst (listed.setIfInBounds i true) j ↔ j = i ∨ Lst listed j:=by
 unfold Lst
 by_cases h:i = j
 ·subst h;simp [hi]
 ·have h':¬ j = i:=fun e => h e.symm
  simp [Array.getElem?_setIfInBounds_ne h,h']
theorem not_Lst {listed:Array Bool} {j:Nat} (h:listed.getD j true = false):¬ Lst listed j:=by
 intro hl
 unfold Lst at hl
 by_cases hj:j < listed.size
 ·simp [hj] at h hl;rw [h] at hl;cases hl
 ·simp [hj] at hl
theorem Cls_set {listed:Array Bool} {j:Nat} {o:Oper} (hc:Cls ops listed) (hj:j < listed.size) (ho:ops[j]? = some o) (he:∀ e ∈ o.after,bindsE e = true → Lst listed e.on):Cls ops (listed.setIfInBounds j true):=by
 intro i oi hi hl e he' hb
 rw [Lst_set hj] at hl ⊢
 rcases hl with rfl | hl
 ·rw [ho] at hi;cases hi
  exact .inr (he e he' hb)
 ·exact .inr (hc i oi hi hl e he' hb)
theorem nilL_eq {l:List AV} (h:nilL l = true):l = []:=by
 cases l with
 | nil => rfl
 | cons x l => cases h
theorem fA_eq {R:Type} (v:AV) (k:AV → R):fA v k = k v:=by
 obtain ⟨t,a,b,x⟩:=v
 rfl
theorem fX_eq {R:Type} (x:AX AV) (k:AX AV → R):fX x k = k x:=by
 obtain ⟨c,d,e,l,m⟩:=x
 rfl
theorem numE_eq {a b:AV} (h:numE a b = true):a.1 = b.1 ∧ a.2 = b.2 ∧ a.3 = b.3 ∧ a.4.1 = b.4.1 ∧ a.4.2 = b.4.2 ∧ a.4.3 = b.4.3:=by
 obtain ⟨h1,h⟩:=bK_t h
 obtain ⟨h2,h⟩:=bK_t h
 obtain ⟨h3,h⟩:=bK_t h
 unfold xE at h
 rw [fX_eq,fX_eq] at h
 obtain ⟨h4,h⟩:=bK_t h
 obtain ⟨h5,h⟩:=bK_t h
 exact ⟨Nat.eq_of_beq_eq_true h1,Nat.eq_of_beq_eq_true h2,Nat.eq_of_beq_eq_true h3,Nat.eq_of_beq_eq_true h4,Nat.eq_of_beq_eq_true h5,Nat.eq_of_beq_eq_true h⟩
theorem av_ext {a b:AV} (h:a.1 = b.1 ∧ a.2 = b.2 ∧ a.3 = b.3 ∧ a.4.1 = b.4.1 ∧ a.4.2 = b.4.2 ∧ a.4.3 = b.4.3) (h1:a.4.4 = b.4.4) (h2:a.4.5 = b.4.5):a = b:=by
 obtain ⟨t,x,y,c,d,e,l,m⟩:=a
 obtain ⟨t',x',y',c',d',e',l',m'⟩:=b
 simp only at h h1 h2
 obtain ⟨rfl,rfl,rfl,rfl,rfl,rfl⟩:=h
 subst h1
 subst h2
 rfl
theorem leafE_eq {a b:AV} (h:leafE a b = true):a = b:=by
 unfold leafE at h
 rw [fA_eq,fA_eq] at h
 obtain ⟨h1,h⟩:=bK_t h
 obtain ⟨h2,h⟩:=bK_t h
 obtain ⟨h3,h⟩:=bK_t h
 unfold xL at h
 rw [fX_eq,fX_eq] at h
 obtain ⟨h4,h⟩:=bK_t h
 obtain ⟨h5,h⟩:=bK_t h
 obtain ⟨h6,h⟩:=bK_t h
 obtain ⟨h7,h⟩:=bK_t h
 obtain ⟨h8,h⟩:=bK_t h
 obtain ⟨h9,h⟩:=bK_t h
 exact av_ext ⟨Nat.eq_of_beq_eq_true h1,Nat.eq_of_beq_eq_true h2,Nat.eq_of_beq_eq_true h3,Nat.eq_of_beq_eq_true h4,Nat.eq_of_beq_eq_true h5,Nat.eq_of_beq_eq_true h6⟩ ((nilL_eq h7).trans (nilL_eq h8).symm) ((nilL_eq h9).trans (nilL_eq h).symm)
theorem leafsE_eq:∀ {l m:List AV},leafsE l m = true → l = m
 | [],m,h => (nilL_eq h).symm
 | x :: l,[],h => by cases h
 | x :: l,y :: m,h => by
  obtain ⟨h1,h2⟩:=bK_t (show bK (leafE x y) (leafsE l m) false = true from h)
  rw [leafE_eq h1,leafsE_eq h2]
theorem avE_eq {a b:AV} (h:avE a b = true):a = b:=by
 unfold avE at h
 rw [fA_eq,fA_eq] at h
 obtain ⟨h0,h⟩:=bK_t h
 obtain ⟨h1,h⟩:=bK_t h
 exact av_ext (numE_eq h0) (leafsE_eq h1) (leafsE_eq h)
end EV
end
noncomputable section
namespace EV
open Go
variable {P:Program} {g:Nat} {H:Nat → HE} {nt lc pk fM:Nat} {ops:Array Oper}
def TR (ρ:Rho) (T:Tmps) (a:Act) (l:List Nat):Prop:=∀ t ∈ l,t < maxTmps → VR ρ (T.get t) (a.tmps.getD t undef)
def Gl (g:Nat) (ρ:Rho):Prop:=∀ b,b < g → ∃ R,ρ b = some ⟨b,0,R⟩
theorem tmp_mem {x:Operand} {t:Nat} {l:List Operand} (h:x ∈ l) (hx:x = .tmp t):t ∈ tmpsOf l:=by
 unfold tmpsOf
 rw [List.mem_filterMap]
 exact ⟨x,h,by rw [hx]⟩
theorem wt_op {o:Oper} {t:Nat} (h:t ∈ tmpsOf o.op.operands.toList):t ∈ wtOf ops o:=by
 unfold wtOf
 cases o.guard with
 | none => exact h
 | some q =>
  change t ∈ (Option.rec (motive:=fun _ => List Nat) (tmpsOf o.op.operands.toList) (fun t => t :: tmpsOf o.op.operands.toList) (dstOf ops q.1):List Nat)
  cases dstOf ops q.1 with
  | none => exact h
  | some s => exact List.mem_cons_of_mem _ h
theorem opd_tr {ρ:Rho} {T:Tmps} {a:Act} {x:Operand} (hg:Gl g ρ) (hx:glob g x = true) (ht:∀ t,x = .tmp t → t < maxTmps → VR ρ (T.get t) (a.tmps.getD t undef)):VR ρ ((opd [] x).1 ⟨T,PUnit.unit⟩) (a.eval x):=by
 cases x with
 | tmp t =>
  change VR ρ ((tmpG t).1 T) (a.tmps.getD t undef)
  by_cases h:t < maxTmps
  ·rw [tmpG_get h];exact ht t rfl h
  ·rw [tmpG_out h];exact VR_undef
 | const v =>
  change VR ρ ((oK (R:=OpdF []) ⟨fun _ => undefA⟩ (constAV v) (cF [])).1 ⟨T,PUnit.unit⟩) v
  cases hc:constAV v with
  | none => exact VR_undef
  | some c =>
   change VR ρ ((cF [] c).1 ⟨T,PUnit.unit⟩) v
   rw [cF_run]
   exact constAV_rel hc
 | global k =>
  obtain ⟨R,hR⟩:=hg k (glob_lt hx rfl)
  exact VR_mPtr (o:=0) hR
 | func f => exact VR_mFn (l:=[]) (m:=[]) (a:=#[]) (b:=#[]) trivial trivial
theorem opds_tr {ρ:Rho} {T:Tmps} {a:Act} {o:Oper} (hg:Gl g ρ) (hx:∀ y ∈ o.op.operands,glob g y = true) (ht:TR ρ T a (wtOf ops o)):∀ y ∈ o.op.operands,VR ρ ((opd [] y).1 ⟨T,PUnit.unit⟩) (a.eval y):=fun y hy =>
 opd_tr hg (hx y hy) fun t e hm => ht t (wt_op (tmp_mem (by simpa using hy) e)) hm
theorem guD_ok {o:Oper} {T:Tmps} {t e:Ans} (hk:((guD ops o).1 ⟨T,PUnit.unit⟩ t e).ok) :
  ∃ c:Bool,(guD ops o).1 ⟨T,PUnit.unit⟩ t e = (if c then t else e) ∧ ∀ (ρ:Rho) (a:Act),TR ρ T a (wtOf ops o) → Region.wanted o (yielded ops a.tmps) = c:=by
 unfold guD at hk ⊢
 cases hg:o.guard with
 | none => exact ⟨true,rfl,fun ρ a _ => by simp [Region.wanted,hg]⟩
 | some q =>
  rw [hg] at hk
  obtain ⟨q1,q2⟩:=q
  have hk:((gdF [] q2 (dstOf ops q1)).1 ⟨T,PUnit.unit⟩ t e).ok:=hk
  change ∃ c:Bool,(gdF [] q2 (dstOf ops q1)).1 ⟨T,PUnit.unit⟩ t e = (if c then t else e) ∧ _
  have hw:∀ a:Act,Region.wanted o (yielded ops a.tmps) = (yielded ops a.tmps q1 == some q2):=fun a => by simp [Region.wanted,hg]
  have yd:∀ a:Act,yielded ops a.tmps q1 = (match (dstOf ops q1).bind (a.tmps[·]?) with | some (.bool b) => some b | _ => none):=fun a => rfl
  cases hd:dstOf ops q1 with
  | none => exact ⟨false,rfl,fun ρ a _ => by rw [hw,yd,hd];rfl⟩
  | some s =>
   rw [hd] at hk
   have form:(gdF [] q2 (some s)).1 ⟨T,PUnit.unit⟩ t e = bA (Nat.beq ((tmpG s).1 T).1 (nat_lit 2)) (bA (Nat.beq ((tmpG s).1 T).2 (nat_lit 1)) (if q2 then t else e) (if q2 then e else t))
     (bA (Nat.beq ((tmpG s).1 T).1 (nat_lit 8)) e (.fail 71)):=by
    cases q2
    ·rfl
    ·rfl
   rw [form] at hk ⊢
   have hmem:s ∈ wtOf ops o:=by
    unfold wtOf
    rw [hg]
    change s ∈ (Option.rec (motive:=fun _ => List Nat) (tmpsOf o.op.operands.toList) (fun t => t :: tmpsOf o.op.operands.toList) (dstOf ops q1):List Nat)
    rw [hd]
    exact List.mem_cons_self
   have hv:∀ (ρ:Rho) (a:Act),TR ρ T a (wtOf ops o) → ((tmpG s).1 T).1 ≠ 0 → VR ρ ((tmpG s).1 T) (a.tmps.getD s undef):=fun ρ a ht h0 => by
    by_cases h:s < maxTmps
    ·rw [tmpG_get h];exact ht s hmem h
    ·rw [tmpG_out h];exact VR_undef
   have two:((tmpG s).1 T).1 = 2 → ∀ (ρ:Rho) (a:Act),TR ρ T a (wtOf ops o) → yielded ops a.tmps q1 = some (Nat.beq ((tmpG s).1 T).2 1):=fun h2 ρ a ht => by
    have:=VR_2 (hv ρ a ht (by rw [h2];exact fun c => by cases c)) h2
    rw [Array.getD_eq_getD_getElem?] at this
    rw [yd,hd,Option.bind_some]
    cases hq:a.tmps[s]? with
    | none => rw [hq] at this;cases this
    | some y =>
     rw [hq] at this
     have this:y = _:=this
     rw [this]
   have eight:((tmpG s).1 T).1 = 8 → ∀ (ρ:Rho) (a:Act),TR ρ T a (wtOf ops o) → yielded ops a.tmps q1 = none:=fun h8 ρ a ht => by
    obtain ⟨cs,hc,_⟩:=VR_8 (hv ρ a ht (by rw [h8];exact fun c => by cases c)) h8
    rw [Array.getD_eq_getD_getElem?] at hc
    rw [yd,hd,Option.bind_some]
    cases hq:a.tmps[s]? with
    | none => rfl
    | some y =>
     rw [hq] at hc
     have hc:y = _:=hc
     rw [hc]
   by_cases h2:((tmpG s).1 T).1 = 2
   ·rw [nbT h2,bA_true]
    cases hb:Nat.beq ((tmpG s).1 T).2 1 with
    | true =>
     rw [bA_true]
     refine ⟨q2,rfl,fun ρ a ht => ?_⟩
     rw [hw,two h2 ρ a ht,hb]
     cases q2 <;> rfl
    | false =>
     rw [bA_false]
     refine ⟨!q2,by cases q2 <;> rfl,fun ρ a ht => ?_⟩
     rw [hw,two h2 ρ a ht,hb]
     cases q2 <;> rfl
   ·rw [nbF h2,bA_false] at hk ⊢
    obtain ⟨h3,e3⟩:=bA_ok hk
    rw [e3]
    refine ⟨false,rfl,fun ρ a ht => ?_⟩
    rw [hw,eight (Nat.eq_of_beq_eq_true h3) ρ a ht]
    rfl
def RFact (P:Program) (g lk:Nat) (ops:Array Oper) (o:Oper) (T:Tmps) (h:Heap) (n:Nat) (v:AV):Prop:=
 ∀ (ρ:Rho) (a:Act) (w:World),Emb g lk ρ h n w → TR ρ T a (wtOf ops o) →
  (Region.wanted o (yielded ops a.tmps) = true ∧ ∃ u,(execOp a.eval o).run P w = .ok (.value u) w ∧ VR ρ v u) ∨ (Region.wanted o (yielded ops a.tmps) = false ∧ VR ρ v undef)
def AFact (P:Program) (g:Nat) (ops:Array Oper) (o:Oper) (T:Tmps) (m:Nat) (v:AV) (ao:AO):Prop:=
 ∀ (ρ:Rho) (a:Act) (w:World),Gl g ρ → TR ρ T a (wtOf ops o) →
  ∃ u ob,(execOp a.eval o).run P w = .ok (.value u) (w.alloc ob) ∧ ∀ (ρ':Rho) (w2:World),ρ.le ρ' → ρ' m = some ⟨w.heap.size,0,obR ob⟩ → w2.heap[w.heap.size]? = some ob →
   VR ρ' v u ∧ OW ρ' ao ⟨w.heap.size,0,obR ob⟩ w2
def ReadsOK (P:Program) (g:Nat) (H:Nat → HE):Prop:=∀ o:Oper,kindOf o.op = 0 → PuOK P g (opF [] P H o.op) o
def AllocsOK (P:Program) (H:Nat → HE):Prop:=∀ o:Oper,kindOf o.op = 1 → AlOK P (opF [] P H o.op) o
theorem fullR_read (hR:ReadsOK P g H) {o:Oper} (hk0:kindOf o.op = 0) (hg:∀ y ∈ o.op.operands,glob g y = true) {cx:Cx} {b:Nat} {T:Tmps} {h:Heap} {n:Nat} {K:Vk} (hk:((fullR P H ops o).1 cx b T h n K).ok) :
  ∃ v,(fullR P H ops o).1 cx b T h n K = K v h n ∧ RFact P g cx.1 ops o T h n v:=by
 have hk:((guD ops o).1 ⟨T,PUnit.unit⟩ ((opF [] P H o.op).1 cx ⟨T,PUnit.unit⟩ h n K) (K (mTup []) h n)).ok:=hk
 change ∃ v,(guD ops o).1 ⟨T,PUnit.unit⟩ ((opF [] P H o.op).1 cx ⟨T,PUnit.unit⟩ h n K) (K (mTup []) h n) = K v h n ∧ _
 obtain ⟨c,e,hc⟩:=guD_ok hk
 rw [e] at hk ⊢
 cases c with
 | true =>
  simp only [if_true] at hk ⊢
  obtain ⟨v,e,hv⟩:=hR o hk0 cx ⟨T,PUnit.unit⟩ h n K hk
  refine ⟨v,e,fun ρ a w hE ht => .inl ⟨hc ρ a ht,hv ρ a w hE (opds_tr hE.gl hg ht)⟩⟩
 | false =>
  exact ⟨mTup [],rfl,fun ρ a w hE ht => .inr ⟨hc ρ a ht,undef_rel⟩⟩
theorem allocR_al (hA:AllocsOK P H) {o:Oper} (hk1:kindOf o.op = 1) (hg:∀ y ∈ o.op.operands,glob g y = true) {cx:Cx} {b j:Nat} {T:Tmps} {h:Heap} {n:Nat} {K:Vk} (hk:((allocR P H o j).1 cx b T h n K).ok) :
  ∃ v ao,b + j < maxBlocks ∧ (allocR P H o j).1 cx b T h n K = K v (hset h (b + j) ao) (b + j + 1) ∧ AFact P g ops o T (b + j) v ao:=by
 have ef:(allocR P H o j).1 cx b T h n K = (opF [] P H o.op).1 cx ⟨T,PUnit.unit⟩ h (b + j) K:=fT_eq (R:=Ans) (Nat.add b j) fun m => (opF [] P H o.op).1 cx ⟨T,PUnit.unit⟩ h m K
 rw [ef] at hk ⊢
 obtain ⟨v,ao,h1,e,hv⟩:=hA o hk1 cx ⟨T,PUnit.unit⟩ h (b + j) K hk
 exact ⟨v,ao,h1,e,fun ρ a w hG ht => hv ρ a w (opds_tr hG hg ht)⟩
theorem Emb.place {lk:Nat} {ρ:Rho} {h:Heap} {n:Nat} {w:World} (hE:Emb g lk ρ h n w) {c:Nat} {pl:Pl} (hc:c < n) (hn:ρ c = none) (hd:(hget h c).1 = 0) (hB:pl.B < w.heap.size):ρ.le (ρ.up c pl) ∧ Emb g lk (ρ.up c pl) h n w:=by
 have hl:ρ.le (ρ.up c pl):=fun b q hb => by
  have hne:b ≠ c:=fun e => by rw [e,hn] at hb;cases hb
  simp [Rho.up,hne,hb]
 have hne:∀ b,(hget h b).1 ≠ 0 → b ≠ c:=fun b hb e => hb (e ▸ hd)
 refine ⟨hl,hE.nb,hE.gk,hE.kn,fun b q hb => ?_,fun b hb ht => ?_,fun b b' q q' h1 h2 h3 h4 h5 h6 h7 h8 h9 => ?_,fun b hb => ?_,hE.up,fun b b' q q' h1 h2 h3 h4 h5 h6 h7 h8 => ?_⟩
 ·by_cases e:b = c
  ·subst e
   simp only [Rho.up_same,Option.some.injEq] at hb
   subst hb
   exact ⟨hc,hB⟩
  ·simp only [Rho.up,e,if_false] at hb
   exact hE.bd b q hb
 ·obtain ⟨q,p1,p2⟩:=hE.ob b hb ht
  exact ⟨q,hl _ _ p1,p2.keep hl rfl⟩
 ·simp only [Rho.up,hne b h5,if_false] at h7
  simp only [Rho.up,hne b' h6,if_false] at h8
  exact hE.inj b b' q q' h1 h2 h3 h4 h5 h6 h7 h8 h9
 ·obtain ⟨R,hR⟩:=hE.gl b hb
  exact ⟨R,hl _ _ hR⟩
 ·simp only [Rho.up,hne b (by rw [h4];decide),if_false] at h6
  simp only [Rho.up,hne b' (by rw [h5];decide),if_false] at h7
  exact hE.shr b b' q q' h1 h2 h3 h4 h5 h6 h7 h8
theorem Stp.place {lk:Nat} {ρ0 ρ:Rho} {h0 h:Heap} {n0 n:Nat} {w0 w:World} (s:Stp lk ρ0 h0 n0 w0 ρ h n w) {c:Nat} {pl:Pl} (hc0:c < n0 → ρ0 c = none → False) (hn:ρ c = none) (hd:(hget h c).1 = 0):Stp lk ρ0 h0 n0 w0 (ρ.up c pl) h n w:=by
 have hne:∀ b,(hget h b).1 ≠ 0 → b ≠ c:=fun b hb e => hb (e ▸ hd)
 refine ⟨fun b q hb => ?_,s.nn,s.os,s.tape,s.output,s.sz,s.unt,fun b q h1 h2 h3 h4 h5 => ?_,s.lck,s.ded,fun b hb hbn => ?_⟩
 ·have h1:=s.ext b q hb
  have hne:b ≠ c:=fun e => by rw [e,hn] at h1;cases h1
  simp [Rho.up,hne,h1]
 ·simp only [Rho.up,hne b h3,if_false] at h4
  exact s.own b q h1 h2 h3 h4 h5
 ·have h1:=s.nop b hb hbn
  have hne:b ≠ c:=fun e => hc0 (e ▸ hb) (e ▸ hbn)
  simp [Rho.up,hne,h1]
theorem Emb.adopt {lk:Nat} {ρ:Rho} {h:Heap} {n:Nat} {w:World} (hE:Emb g lk ρ h n w) {c:Nat} {pl:Pl} {ao:AO} (hc:c < n) (hp:ρ c = some pl) (hO:OW ρ ao pl w) (hal:∀ b q,b < n → (hget h b).1 ≠ 0 → ρ b = some q → q.B ≠ pl.B) :
  Emb g lk ρ (hset h c ao) n w:=by
 have hnb:=hE.nb
 have hg:∀ b,b < n → hget (hset h c ao) b = if b = c then ao else hget h b:=fun b hb => hget_hset h c b ao (by omega) (by omega)
 refine ⟨hE.nb,hE.gk,hE.kn,hE.bd,fun b hb ht => ?_,fun b b' q q' h1 h2 h3 h4 h5 h6 h7 h8 h9 => ?_,hE.gl,fun b hb hm => ?_,fun b b' q q' h1 h2 h3 h4 h5 h6 h7 h8 => ?_⟩
 ·rw [hg b hb] at ht ⊢
  by_cases e:b = c
  ·subst e
   exact ⟨pl,hp,by simpa using hO⟩
  ·simp only [e,if_false] at ht ⊢
   exact hE.ob b hb ht
 ·rw [hg b h2] at h5 h9
  rw [hg b' h3] at h6 h9
  by_cases e:b = c
  ·subst e
   have e':b' ≠ b:=Ne.symm h4
   simp only [e',if_false] at h6
   rw [hp] at h7
   cases h7
   exact Ne.symm (hal b' q' h3 h6 h8)
  ·simp only [e,if_false] at h5 h9
   by_cases e':b' = c
   ·subst e'
    rw [hp] at h8
    cases h8
    exact hal b q h2 h5 h7
   ·simp only [e',if_false] at h6 h9
    exact hE.inj b b' q q' h1 h2 h3 h4 h5 h6 h7 h8 h9
 ·rw [hget_hset h c b ao (by omega) hm,if_neg (by omega)]
  exact hE.up b hb hm
 ·rw [hg b (by omega)] at h4 ⊢
  rw [hg b' h3] at h5 ⊢
  by_cases e:b = c
  ·subst e
   have e':b' ≠ b:=by omega
   simp only [e',if_false] at h5
   rw [hp] at h6
   cases h6
   exact absurd h8.symm (hal b' q' h3 (by rw [h5];decide) h7)
  ·simp only [e,if_false] at h4 ⊢
   by_cases e':b' = c
   ·subst e'
    rw [hp] at h7
    cases h7
    exact absurd h8 (hal b q (by omega) (by rw [h4];decide) h6)
   ·simp only [e',if_false] at h5 ⊢
    exact hE.shr b b' q q' h1 h2 h3 h4 h5 h6 h7 h8
end EV
end
noncomputable section
namespace EV
open Go
variable {P:Program} {g:Nat} {H:Nat → HE} {nt lc pk fM:Nat} {ops:Array Oper}
def putD (d:Option Tmp) (v:AV) (T:Tmps):Tmps:=match d with | some t => T.set t v | none => T
theorem dst_run {d:Option Tmp} {v:AV} {T:Tmps} {k:Tmps → Ans} (hk:((dstF nt d).1 v T k).ok):(∀ t,d = some t → t < nt) ∧ (dstF nt d).1 v T k = k (putD d v T):=by
 cases d with
 | none => exact ⟨fun t h => (by cases h),rfl⟩
 | some t =>
  have hk:((bK (R:=DstF) (Nat.blt t nt) ⟨(tmpF t).2⟩ ⟨fun _ _ _ => .fail 70⟩).1 v T k).ok:=hk
  change _ ∧ (bK (R:=DstF) (Nat.blt t nt) ⟨(tmpF t).2⟩ ⟨fun _ _ _ => .fail 70⟩).1 v T k = k (T.set t v)
  cases ht:Nat.blt t nt with
  | false => rw [ht] at hk;exact hk.elim
  | true =>
   refine ⟨fun s h => by cases h;exact bltE ht,?_⟩
   exact tmpF_put t v T k
theorem putD_get {d:Option Tmp} {v:AV} {T:Tmps} (hd:∀ t,d = some t → t < maxTmps) {t:Nat} (ht:t < maxTmps):(putD d v T).get t = if d = some t then v else T.get t:=by
 cases d with
 | none => simp [putD]
 | some s =>
  have h:=Tmps.get_set T s t v (hd s rfl) ht
  simp only [putD,h,Option.some.injEq]
  by_cases e:t = s
  ·subst e;simp
  ·have e':¬ s = t:=fun x => e x.symm
   simp [e,e']
def EvAt (P:Program) (g lk b:Nat) (ops:Array Oper) (T T1:Tmps) (h:Heap) (n ev ev1 j i:Nat) (oi:Oper):Prop:=
 ∃ Ti v,(∀ t,oi.dst = some t → v = T1.get t) ∧
  ((kindOf oi.op = 0 ∧ RFact P g lk ops oi Ti h n v) ∨ (kindOf oi.op = 1 ∧ ∃ ao,AFact P g ops oi Ti (b + i) v ao)) ∧
  (∀ t i' (oi':Oper),t < maxTmps → j ≤ i' → i' < i → ops[i']? = some oi' → oi'.dst = some t → memN i' ev = false → memN i' ev1 = true → Ti.get t = T1.get t) ∧
  (∀ t,t < maxTmps → (∀ i' (oi':Oper),ops[i']? = some oi' → oi'.dst = some t → ¬ (j ≤ i' ∧ i' < i ∧ memN i' ev = false ∧ memN i' ev1 = true)) → Ti.get t = T.get t)
structure RevOut (P:Program) (g lk b:Nat) (ops:Array Oper) (pk rem cm:Nat) (T T1:Tmps) (h:Heap) (n ev ev1 j:Nat):Prop where
 keep:∀ t,t < maxTmps → (∀ i (oi:Oper),ops[i]? = some oi → oi.dst = some t → ¬ (j ≤ i ∧ memN i ev = false ∧ memN i ev1 = true)) → T1.get t = T.get t
 sub:∀ i,memN i ev = true → memN i ev1 = true
 new:∀ i,memN i ev1 = true → memN i ev = true ∨ (j ≤ i ∧ ∃ oi,ops[i]? = some oi ∧ kindOf oi.op ≠ 2 ∧ Nat.beq (Nat.land (m64 pk i) rem) 0 = true)
 all:∀ i (oi:Oper),j ≤ i → ops[i]? = some oi → kindOf oi.op ≠ 2 → Nat.beq (Nat.land (m64 pk i) rem) 0 = true → memN i ev1 = true ∧ (memN i cm = false → EvAt P g lk b ops T T1 h n ev ev1 j i oi)
theorem kind_cases (op:Op) (h:kindOf op ≠ 2):kindOf op = 0 ∨ kindOf op = 1:=by
 cases op with
 | call c =>
  change kindC c.callee ≠ 2 at h
  change kindC c.callee = 0 ∨ kindC c.callee = 1
  unfold kindC at *
  split at h
  ·rename_i b _
   unfold kindB at *
   split at h <;> first | exact .inl rfl | exact absurd rfl h
  ·exact absurd rfl h
 | _ => first | exact .inl rfl | exact .inr rfl | exact absurd rfl h
theorem readR_run (hR:ReadsOK P g H) (hA:AllocsOK P H) {o:Oper} (hk2:kindOf o.op ≠ 2) (hg:∀ y ∈ o.op.operands,glob g y = true) {cx:Cx} {b j:Nat} {T:Tmps} {h:Heap} {n:Nat} {K:Vk} (hk:((readR P H ops o j).1 cx b T h n K).ok) :
  ∃ v h' n',(readR P H ops o j).1 cx b T h n K = K v h' n' ∧ ((kindOf o.op = 0 ∧ RFact P g cx.1 ops o T h n v) ∨ (kindOf o.op = 1 ∧ ∃ ao,AFact P g ops o T (b + j) v ao)):=by
 rcases kind_cases o.op hk2 with h0 | h1
 ·have e0:readR P H ops o j = fullR P H ops o:=by unfold readR;rw [h0];rfl
  rw [e0] at hk ⊢
  obtain ⟨v,e,hv⟩:=fullR_read (b:=b) hR h0 hg hk
  exact ⟨v,h,n,e,.inl ⟨h0,hv⟩⟩
 ·have e0:readR P H ops o j = allocR P H o j:=by unfold readR;rw [h1];rfl
  rw [e0] at hk ⊢
  obtain ⟨v,ao,_,e,hv⟩:=allocR_al (ops:=ops) (n:=n) hA h1 hg hk
  exact ⟨v,_,_,e,.inr ⟨h1,ao,hv⟩⟩
theorem cmp_run {d:Option Tmp} {v:AV} {T:Tmps} (hd:∀ t,d = some t → t < maxTmps) (hk:(cmpF d).1 v T = true):∀ t,d = some t → v = T.get t:=fun t e => by
 subst e
 have hk:avE v ((tmpG t).1 T) = true:=hk
 rw [tmpG_get (hd t rfl)] at hk
 exact avE_eq hk
theorem rev_ok (hR:ReadsOK P g H) (hA:AllocsOK P H) (hC:Chk g nt lc pk fM ops) (hnt:nt ≤ maxTmps) {rem cm:Nat} {k:Nat → DF} {cx:Cx} {b:Nat} {h:Heap} {n:Nat} {e:Ex} {T':Tmps} {h':Heap} {n':Nat} :
  ∀ (l:List Oper) (j ev:Nat) (T:Tmps),(∀ i,l[i]? = ops[j + i]?) → (revD P H nt ops pk rem cm k l j ev).1 cx b T h n = .fin e T' h' n' →
   ∃ T1 ev1,(k ev1).1 cx b T1 h n = .fin e T' h' n' ∧ RevOut P g cx.1 b ops pk rem cm T T1 h n ev ev1 j
 | [],j,ev,T,hl,hk => by
  refine ⟨T,ev,hk,fun t _ _ => rfl,fun i hi => hi,fun i hi => .inl hi,fun i oi hj ho _ _ => ?_⟩
  have:=hl (i - j)
  rw [show j + (i - j) = i by omega,ho] at this
  simp at this
 | o :: l,j,ev,T,hl,hk => by
  have hoj:ops[j]? = some o:=by have:=hl 0;simpa using this.symm
  have hl':∀ i,l[i]? = ops[(j + 1) + i]?:=fun i => by have:=hl (i + 1);rw [show j + (i + 1) = j + 1 + i by omega] at this;simpa using this
  have hk:(bK (Nat.beq (kindOf o.op) (nat_lit 2)) (fT (Nat.succ j) fun j => revD P H nt ops pk rem cm k l j ev)
   (bK (Nat.beq (Nat.land (m64 pk j) rem) (nat_lit 0))
    (bK (memN j ev) (bK (memN j cm) (fT (Nat.succ j) fun j => revD P H nt ops pk rem cm k l j ev) (againD P H ops o j (fT (Nat.succ j) fun j => revD P H nt ops pk rem cm k l j ev)))
     (newD P H nt ops o j (fT (Nat.lor ev (bit j)) fun ev => fT (Nat.succ j) fun j => revD P H nt ops pk rem cm k l j ev)))
    (fT (Nat.succ j) fun j => revD P H nt ops pk rem cm k l j ev))).1 cx b T h n = .fin e T' h' n':=hk
  simp only [fT_eq] at hk
  have hdt:∀ t,o.dst = some t → t < maxTmps:=fun t ht => Nat.lt_of_lt_of_le (hC.dt j o t hoj ht).1 hnt
  -- it is passed by
  have pass:(revD P H nt ops pk rem cm k l (j + 1) ev).1 cx b T h n = .fin e T' h' n' →
    (kindOf o.op ≠ 2 → Nat.beq (Nat.land (m64 pk j) rem) 0 = true → memN j ev = true ∧ (memN j cm = false → ∃ v h2 n2,((kindOf o.op = 0 ∧ RFact P g cx.1 ops o T h n v) ∨ (kindOf o.op = 1 ∧ ∃ ao,AFact P g ops o T (b + j) v ao)) ∧ (h2 = h ∨ n2 = n ∨ True) ∧ ∀ t,o.dst = some t → v = T.get t)) →
    ∃ T1 ev1,(k ev1).1 cx b T1 h n = .fin e T' h' n' ∧ RevOut P g cx.1 b ops pk rem cm T T1 h n ev ev1 j:=fun hk hj => by
   obtain ⟨T1,ev1,e1,r⟩:=rev_ok hR hA hC hnt l (j + 1) ev T hl' hk
   refine ⟨T1,ev1,e1,fun t ht hno => r.keep t ht fun i oi hi hd c => hno i oi hi hd ⟨by omega,c.2⟩,r.sub,fun i hi => ?_,fun i oi hij hoi h2 hb => ?_⟩
   ·rcases r.new i hi with c | ⟨c1,c2⟩
    ·exact .inl c
    ·exact .inr ⟨by omega,c2⟩
   ·by_cases eij:i = j
    ·subst eij
     rw [hoj] at hoi
     cases hoi
     obtain ⟨p1,p2⟩:=hj h2 hb
     refine ⟨r.sub i p1,fun hcm => ?_⟩
     obtain ⟨v,_,_,p3,_,p4⟩:=p2 hcm
     refine ⟨T,v,fun t ht => ?_,p3,fun t i' oi' _ q1 q2 => absurd q1 (by omega),fun t _ _ => rfl⟩
     rw [p4 t ht]
     refine (r.keep t (hdt t ht) fun i' oi' hi' hd' c => ?_).symm
     have:=hC.dd i' i oi' o t hi' hoj hd' ht
     omega
    ·obtain ⟨q1,q2⟩:=r.all i oi (by omega) hoi h2 hb
     refine ⟨q1,fun hcm => ?_⟩
     obtain ⟨Ti,v,a1,a2,a3,a4⟩:=q2 hcm
     refine ⟨Ti,v,a1,a2,fun t i' oi' ht b1 b2 b3 b4 b5 b6 => ?_,fun t ht hno => a4 t ht fun i' oi' hi' hd' c => hno i' oi' hi' hd' ⟨by omega,c.2⟩⟩
     by_cases e2:i' = j
     ·subst e2
      rw [hoj] at b3
      cases b3
      by_cases h2':kindOf o.op = 2
      ·rcases r.new i' b6 with c | ⟨c1,_⟩
       ·rw [b5] at c;cases c
       ·omega
      ·cases hbb:Nat.beq (Nat.land (m64 pk i') rem) 0 with
       | true =>
        have:=(hj h2' hbb).1
        rw [b5] at this
        cases this
       | false =>
        rcases r.new i' b6 with c | ⟨c1,_⟩
        ·rw [b5] at c;cases c
        ·omega
     ·exact a3 t i' oi' ht (by omega) b2 b3 b4 b5 b6
  by_cases h2:kindOf o.op = 2
  ·rw [nbT h2] at hk
   exact pass hk fun c => absurd h2 c
  ·rw [nbF h2] at hk
   cases hb:Nat.beq (Nat.land (m64 pk j) rem) 0 with
   | false =>
    rw [hb] at hk
    exact pass hk fun _ c => by rw [hb] at c;cases c
   | true =>
    rw [hb] at hk
    cases hev:memN j ev with
    | true =>
     rw [hev] at hk
     cases hcm:memN j cm with
     | true =>
      rw [hcm] at hk
      exact pass hk fun _ _ => ⟨hev,fun c => by rw [hcm] at c;cases c⟩
     | false =>
      rw [hcm] at hk
      have hk:(readR P H ops o j).1 cx b T h n (fun v _ _ => bA ((cmpF o.dst).1 v T) ((revD P H nt ops pk rem cm k l (j + 1) ev).1 cx b T h n) (.fail 100)) = .fin e T' h' n':=hk
      obtain ⟨v,h2',n2',e1,hf⟩:=readR_run hR hA h2 (hC.gl j o hoj) (fin_ok hk)
      rw [e1] at hk
      obtain ⟨c1,c2⟩:=bA_ok (fin_ok hk)
      rw [c2] at hk
      exact pass hk fun _ _ => ⟨hev,fun _ => ⟨v,h2',n2',hf,.inr (.inr trivial),cmp_run hdt c1⟩⟩
    | false =>
     rw [hev] at hk
     have hk:(readR P H ops o j).1 cx b T h n (fun v _ _ => (dstF nt o.dst).1 v T fun T => (revD P H nt ops pk rem cm k l (j + 1) (Nat.lor ev (bit j))).1 cx b T h n) = .fin e T' h' n':=hk
     obtain ⟨v,h2',n2',e1,hf⟩:=readR_run hR hA h2 (hC.gl j o hoj) (fin_ok hk)
     rw [e1] at hk
     obtain ⟨_,c2⟩:=dst_run (fin_ok hk)
     rw [c2] at hk
     have hk:(revD P H nt ops pk rem cm k l (j + 1) (Nat.lor ev (bit j))).1 cx b (putD o.dst v T) h n = .fin e T' h' n':=hk
     obtain ⟨T1,ev1,e2,r⟩:=rev_ok hR hA hC hnt l (j + 1) (Nat.lor ev (bit j)) (putD o.dst v T) hl' hk
     have hme:∀ i,memN i (Nat.lor ev (bit j)) = (memN i ev || decide (i = j)):=fun i => by rw [memN_lor,memN_bit]
     have hj1:memN j ev1 = true:=r.sub j (by rw [hme];simp)
     have get:∀ t,t < maxTmps → (putD o.dst v T).get t = if o.dst = some t then v else T.get t:=fun t ht => putD_get hdt ht
     have hT1:∀ t,o.dst = some t → T1.get t = v:=fun t ht => by
      have h1:=r.keep t (hdt t ht) fun i oi hi hd c => by
       have:=hC.dd i j oi o t hi hoj hd ht
       omega
      rw [h1,get t (hdt t ht),if_pos ht]
     refine ⟨T1,ev1,e2,fun t ht hno => ?_,fun i hi => r.sub i (by rw [hme,hi];rfl),fun i hi => ?_,fun i oi hij hoi h2i hb' => ?_⟩
     ·have hne:o.dst ≠ some t:=fun c => hno j o hoj c ⟨Nat.le_refl _,hev,hj1⟩
      have h1:=r.keep t ht fun i oi hi hd c => by
       have hij:¬ i = j:=by omega
       have c2:=c.2.1
       rw [hme] at c2
       simp only [hij,decide_false,Bool.or_false] at c2
       exact hno i oi hi hd ⟨by omega,c2,c.2.2⟩
      rw [h1,get t ht,if_neg hne]
     ·rcases r.new i hi with c | ⟨c1,c2⟩
      ·rw [hme] at c
       by_cases eij:i = j
       ·subst eij
        exact .inr ⟨Nat.le_refl _,o,hoj,h2,hb⟩
       ·simp only [eij,decide_false,Bool.or_false] at c
        exact .inl c
      ·exact .inr ⟨by omega,c2⟩
     ·by_cases eij:i = j
      ·subst eij
       rw [hoj] at hoi
       cases hoi
       exact ⟨hj1,fun _ => ⟨T,v,fun t ht => (hT1 t ht).symm,hf,fun t i' oi' _ q1 q2 => absurd q1 (by omega),fun t _ _ => rfl⟩⟩
      ·obtain ⟨q1,q2⟩:=r.all i oi (by omega) hoi h2i hb'
       refine ⟨q1,fun hcm => ?_⟩
       obtain ⟨Ti,vi,a1,a2,a3,a4⟩:=q2 hcm
       refine ⟨Ti,vi,a1,a2,fun t i' oi' ht b1 b2 b3 b4 b5 b6 => ?_,fun t ht hno => ?_⟩
       ·by_cases e3:i' = j
        ·subst e3
         rw [hoj] at b3
         cases b3
         have h1:=a4 t ht fun i2 oi2 hi2 hd2 c => by
          have:=hC.dd i2 i' oi2 o t hi2 hoj hd2 b4
          omega
         rw [h1,get t ht,if_pos b4,hT1 t b4]
        ·exact a3 t i' oi' ht (by omega) b2 b3 b4 (by rw [hme];simp [b5,e3]) b6
       ·have hne:o.dst ≠ some t:=fun c => hno j o hoj c ⟨Nat.le_refl _,by omega,hev,hj1⟩
        have h1:=a4 t ht fun i2 oi2 hi2 hd2 c => by
         have hij2:¬ i2 = j:=by omega
         have c2:=c.2.2.1
         rw [hme] at c2
         simp only [hij2,decide_false,Bool.or_false] at c2
         exact hno i2 oi2 hi2 hd2 ⟨by omega,c.2.1,c2,c.2.2.2⟩
        rw [h1,get t ht,if_neg hne]
end EV
end
noncomputable section
namespace EV
open Go
variable {P:Program} {g:Nat} {H:Nat → HE} {nt lc pk fM:Nat} {ops:Array Oper}
theorem Stp.adopt {lk:Nat} {ρ0 ρ:Rho} {h0 h:Heap} {n0 n:Nat} {w0 w:World} (s:Stp lk ρ0 h0 n0 w0 ρ h n w) {c:Nat} {pl:Pl} {ao:AO} (hnb:n ≤ maxBlocks) (hc0:n0 ≤ c) (hlk:lk ≤ n0) (hc:c < n) (hp:ρ c = some pl) (hB:w0.heap.size ≤ pl.B) :
  Stp lk ρ0 h0 n0 w0 ρ (hset h c ao) n w:=by
 have hg:∀ b,b < n → hget (hset h c ao) b = if b = c then ao else hget h b:=fun b hb => hget_hset h c b ao (by omega) (by omega)
 have hnn:=s.nn
 refine ⟨s.ext,s.nn,s.os,s.tape,s.output,s.sz,s.unt,fun b q h1 h2 h3 h4 h5 => ?_,fun b hb => ?_,fun b hb hd => ?_,s.nop⟩
 ·by_cases e:b = c
  ·subst e
   rw [hp] at h4
   cases h4
   omega
  ·rw [hg b h2,if_neg e] at h3
   exact s.own b q h1 h2 h3 h4 h5
 ·rw [hg b (by omega),if_neg (by omega)]
  exact s.lck b hb
 ·rw [hg b (by omega),if_neg (by omega)]
  exact s.ded b hb hd
theorem apart_step {lk:Nat} {ρ ρ':Rho} {h h':Heap} {n n':Nat} {w w':World} (hE:Emb g lk ρ h n w) (s:Stp lk ρ h n w ρ' h' n' w') {B:Nat} (hB:B < w.heap.size) (ha:∀ b pl,b < n → (hget h b).1 ≠ 0 → ρ b = some pl → pl.B ≠ B) :
  w'.heap[B]? = w.heap[B]? ∧ ∀ b pl,b < n' → (hget h' b).1 ≠ 0 → ρ' b = some pl → pl.B ≠ B:=by
 refine ⟨s.unt B hB fun b pl _ h2 h3 h4 => ha b pl h2 h3 h4,fun b pl h1 h2 h3 he => ?_⟩
 by_cases hb:b < lk
 ·rw [s.lck b hb] at h2
  have hbn:b < n:=Nat.lt_of_lt_of_le hb hE.kn
  obtain ⟨pl0,hp0,_⟩:=hE.ob b hbn h2
  have h5:=s.ext b pl0 hp0
  rw [h3] at h5
  cases h5
  exact ha b pl hbn h2 hp0 he
 ·obtain ⟨b0,pl0,g1,g2,g3,g4,g5⟩:=s.own b pl (by omega) h1 h2 h3 (by omega)
  exact ha b0 pl0 g2 g3 g4 (g5.trans he)
structure MInv (P:Program) (g lk b lo:Nat) (nt pk:Nat) (ops:Array Oper) (T0:Tmps) (ρ0:Rho) (h0:Heap) (w0:World) (T:Tmps) (h:Heap) (n ev rem cm:Nat) (listed:Array Bool) (ρ:Rho) (a:Act) (w:World):Prop where
 sz:listed.size = ops.size
 cl:Cls ops listed
 lr:∀ f,memN f rem = true → ¬ Lst listed f
 lf:∀ f (o:Oper),ops[f]? = some o → kindOf o.op = 2 → memN f rem = false → Lst listed f
 lm:∀ j,memN j cm = true → j < ops.size → Lst listed j
 le:∀ j,j < ops.size → Lst listed j → memN j ev = true
 em:Emb g lk ρ h n w
 st:Stp lk ρ0 h0 b w0 ρ h n w
 df:Df lo ρ h n w a.defers
 az:a.tmps.size = nt
 v1:∀ j (o:Oper) t,ops[j]? = some o → Lst listed j → o.dst = some t → VR ρ (T.get t) (a.tmps.getD t undef)
 v2:∀ t,t < maxTmps → (∀ j (o:Oper),ops[j]? = some o → o.dst = some t → ¬ Lst listed j) → VR ρ (T0.get t) (a.tmps.getD t undef)
 an:∀ j (o:Oper),ops[j]? = some o → kindOf o.op = 1 → ¬ Lst listed j → ρ (b + j) = none
 ad:∀ j (o:Oper),ops[j]? = some o → kindOf o.op = 1 → b + j < n ∧ (memN j cm = false → (hget h (b + j)).1 = 0)
 ai:∀ j (o:Oper),ops[j]? = some o → kindOf o.op = 1 → Lst listed j → memN j cm = false → ∃ w1 u ob,(execOp a.eval o).run P w1 = .ok (.value u) (w1.alloc ob) ∧ ρ (b + j) = some ⟨w1.heap.size,0,obR ob⟩ ∧
  w.heap[w1.heap.size]? = some ob ∧ w0.heap.size ≤ w1.heap.size ∧ ∀ c pl,c < n → (hget h c).1 ≠ 0 → ρ c = some pl → pl.B ≠ w1.heap.size
 ax:∀ j j' (o o':Oper) pl pl',ops[j]? = some o → ops[j']? = some o' → kindOf o.op = 1 → kindOf o'.op = 1 → memN j cm = false → memN j' cm = false → j ≠ j' → ρ (b + j) = some pl → ρ (b + j') = some pl' → pl.B ≠ pl'.B
 ak:∀ j (o:Oper) pl,ops[j]? = some o → kindOf o.op = 1 → memN j cm = false → ρ (b + j) = some pl → ∀ d ∈ a.defers,d.target ≠ .collected pl.B
structure SInv (pk fM:Nat) (ops:Array Oper) (T0 T:Tmps) (ev:Nat):Prop where
 ts:∀ t,t < maxTmps → (∀ i (oi:Oper),ops[i]? = some oi → oi.dst = some t → memN i ev = false) → T.get t = T0.get t
 ei:∀ j (o:Oper),ops[j]? = some o → memN j ev = true → kindOf o.op ≠ 2 → ∃ f,memN f fM = true ∧ memN f (m64 pk j) = false
section
variable {lk b lo:Nat} {T0 T:Tmps} {ρ0 ρ:Rho} {h0 h:Heap} {w0 w:World} {n ev rem cm:Nat} {listed:Array Bool} {a:Act}
theorem eval_put {a:Act} {d:Option Tmp} {u:Value} {op:Op} (hd:∀ t,d = some t → t ∉ tmpsOf op.operands.toList):∀ x ∈ op.operands,(a.put d u).eval x = a.eval x:=fun x hx => by
 refine Act.eval_put fun t ht hxt => hd t ht (tmp_mem (by simpa using hx) hxt)
theorem alloc_nosel {o:Oper} (h:kindOf o.op = 1):∀ cs b,o.op ≠ .select cs b:=fun cs b e => by rw [e] at h;cases h
theorem alloc_free (hC:Chk g nt lc pk fM ops) {j i:Nat} {o oi:Oper} (hj:ops[j]? = some o) (hk:kindOf o.op = 1) (hi:ops[i]? = some oi) {t:Tmp} (ht:oi.dst = some t) (hm:t ∈ wtOf ops o):memN i (m64 pk j) = true:=by
 have h1:=hC.wr j o hj t hm i oi hi ht
 unfold wrOK at h1
 cases hh:memN i (m64 pk j) with
 | true => rfl
 | false =>
  rw [hh,nbT hk] at h1
  cases h1
theorem fullM_mem {i':Nat} {oi':Oper} (hi':ops[i']? = some oi') (hk2:kindOf oi'.op = 2):memN i' (fullM ops.toList 0) = true:=by
 have key:∀ (l:List Oper) (j k:Nat) (o:Oper),l[k]? = some o → kindOf o.op = 2 → memN (j + k) (fullM l j) = true:=by
  intro l
  induction l with
  | nil => intro j k o h;simp at h
  | cons x l ih =>
   intro j k o h hk
   change memN (j + k) (bK (Nat.beq (kindOf x.op) (nat_lit 2)) (Nat.lor (bit j) (fullM l (Nat.succ j))) (fullM l (Nat.succ j))) = true
   cases k with
   | zero =>
    simp at h
    subst h
    rw [nbT hk]
    change memN (j + 0) (Nat.lor (bit j) (fullM l (Nat.succ j))) = true
    rw [memN_lor,memN_bit]
    simp
   | succ k =>
    have h1:=ih (j + 1) k o (by simpa using h) hk
    rw [show j + 1 + k = j + (k + 1) by omega] at h1
    cases hb:Nat.beq (kindOf x.op) 2 with
    | true =>
     change memN (j + (k + 1)) (Nat.lor (bit j) (fullM l (Nat.succ j))) = true
     rw [memN_lor,h1]
     simp
    | false => exact h1
 have:=key ops.toList 0 i' oi' (ops_at hi') hk2
 rwa [Nat.zero_add] at this
theorem ti_rel (hC:Chk g nt lc pk fM ops) (hS:SInv pk fM ops T0 T ev) {T1:Tmps} {ev1:Nat} (hr:RevOut P g lk b ops pk rem cm T T1 h n ev ev1 0)
  (hM:MInv P g lk b lo nt pk ops T0 ρ0 h0 w0 T1 h n ev1 rem cm listed ρ a w) {i:Nat} {o:Oper} (ho:ops[i]? = some o) (hnl:¬ Lst listed i) (hed:∀ e ∈ o.after,bindsE e = true → Lst listed e.on)
  {Ti:Tmps}
  (h1:∀ t i' (oi':Oper),t < maxTmps → 0 ≤ i' → i' < i → ops[i']? = some oi' → oi'.dst = some t → memN i' ev = false → memN i' ev1 = true → Ti.get t = T1.get t)
  (h2:∀ t,t < maxTmps → (∀ i' (oi':Oper),ops[i']? = some oi' → oi'.dst = some t → ¬ (0 ≤ i' ∧ i' < i ∧ memN i' ev = false ∧ memN i' ev1 = true)) → Ti.get t = T.get t):TR ρ Ti a (wtOf ops o):=by
 intro t ht hm
 by_cases hw:∃ (i':Nat) (oi':Oper),ops[i']? = some oi' ∧ oi'.dst = some t
 ·obtain ⟨i',oi',hi',hd'⟩:=hw
  have uniq:∀ x (ox:Oper),ops[x]? = some ox → ox.dst = some t → x = i':=fun x ox hx hdx => hC.dd x i' ox oi' t hx hi' hdx hd'
  have hwr:=hC.wr i o ho t ht i' oi' hi' hd'
  unfold wrOK at hwr
  cases ha:memN i' (m64 pk i) with
  | true =>
   have hl:Lst listed i':=anc_of_edges hC hM.cl ho hed ha
   have hlt:=anc_lt hC ho ha
   have hev1:=hM.le i' (lt_of_op hi') hl
   have e1:Ti.get t = T1.get t:=by
    cases hev:memN i' ev with
    | false => exact h1 t i' oi' hm (Nat.zero_le _) hlt hi' hd' hev hev1
    | true =>
     rw [h2 t hm fun x ox hx hdx c => by rw [uniq x ox hx hdx,hev] at c;exact absurd c.2.2.1 (by simp),hr.keep t hm fun x ox hx hdx c => by rw [uniq x ox hx hdx,hev] at c;exact absurd c.2.1 (by simp)]
   rw [e1]
   exact hM.v1 i' oi' t hi' hl hd'
  | false =>
   rw [ha] at hwr
   cases hk1:Nat.beq (kindOf o.op) 1 with
   | true => rw [hk1] at hwr;cases hwr
   | false =>
    rw [hk1] at hwr
    obtain ⟨q1,q2⟩:=bK_t hwr
    have hnl':¬ Lst listed i':=fun hl => hnl (anc_listed hC hM.cl hi' hl q1)
    have hlt:i < i':=anc_lt hC hi' q1
    have hev:memN i' ev = false:=by
     cases hev:memN i' ev with
     | false => rfl
     | true =>
      by_cases hk2:kindOf oi'.op = 2
      ·have:memN i' rem = true:=by
        cases hre:memN i' rem with
        | true => rfl
        | false => exact absurd (hM.lf i' oi' hi' hk2 hre) hnl'
       exfalso
       have:=land_self q2 (t:=i') (by
        rw [hC.fm]
        exact fullM_mem hi' hk2)
       have:=anc_lt hC hi' this
       omega
      ·obtain ⟨f,f1,f2⟩:=hS.ei i' oi' hi' hev hk2
       have:=land_self q2 f1
       rw [f2] at this
       cases this
    have e1:Ti.get t = T0.get t:=by
     rw [h2 t hm fun x ox hx hdx c => by rw [uniq x ox hx hdx] at c;omega]
     exact hS.ts t hm fun x ox hx hdx => by rw [uniq x ox hx hdx];exact hev
    rw [e1]
    exact hM.v2 t hm fun x ox hx hdx => by rw [uniq x ox hx hdx];exact hnl'
 ·have no:∀ x (ox:Oper),ops[x]? = some ox → ox.dst = some t → False:=fun x ox hx hdx => hw ⟨x,ox,hx,hdx⟩
  have e1:Ti.get t = T0.get t:=by
   rw [h2 t hm fun x ox hx hdx _ => no x ox hx hdx]
   exact hS.ts t hm fun x ox hx hdx => (no x ox hx hdx).elim
  rw [e1]
  exact hM.v2 t hm fun x ox hx hdx => (no x ox hx hdx).elim
end
end EV
end
noncomputable section
namespace EV
open Go
variable {P:Program} {g:Nat} {H:Nat → HE} {nt lc pk fM:Nat} {ops:Array Oper}
variable {lk b lo:Nat} {T0 T:Tmps} {ρ0 ρ:Rho} {h0 h:Heap} {w0 w:World} {n ev rem cm:Nat} {listed:Array Bool} {a:Act}
theorem put_size (a:Act) (d:Option Tmp) (u:Value):(a.put d u).tmps.size = a.tmps.size:=by cases d <;> simp [Act.put]
theorem put_at {a:Act} {t:Tmp} {u:Value} (h:t < a.tmps.size):(a.put (some t) u).tmps.getD t undef = u:=by simp [Act.put,h]
theorem put_ne {a:Act} {d:Option Tmp} {t:Tmp} {u:Value} (h:d ≠ some t):(a.put d u).tmps.getD t undef = a.tmps.getD t undef:=by
 cases d with
 | none => rfl
 | some s => exact getD_put a s t u fun e => h (by rw [e])
theorem exec_put (hC:Chk g nt lc pk fM ops) (hc:Cls ops listed) {i j:Nat} {o oj:Oper} (ho:ops[i]? = some o) (hnl:¬ Lst listed i) (hj:ops[j]? = some oj) (hk:kindOf oj.op = 1) (hl:Lst listed j) (u:Value) :
  execOp (a.put o.dst u).eval oj = execOp a.eval oj:=
 execOp_congr oj (alloc_nosel hk) (eval_put fun t ht hm => hnl (anc_listed hC hc hj hl (alloc_free hC hj hk ho ht (wt_op hm))))
theorem MInv.read (hC:Chk g nt lc pk fM ops) (hM:MInv P g lk b lo nt pk ops T0 ρ0 h0 w0 T h n ev rem cm listed ρ a w) {i:Nat} {o:Oper} (ho:ops[i]? = some o) (hnl:¬ Lst listed i) (hk:kindOf o.op = 0)
  (hed:∀ e ∈ o.after,bindsE e = true → Lst listed e.on) (hri:memN i rem = false) (hev:memN i ev = true) {u:Value} (hu:∀ t,o.dst = some t → VR ρ (T.get t) u) :
  MInv P g lk b lo nt pk ops T0 ρ0 h0 w0 T h n ev rem cm (listed.setIfInBounds i true) ρ (a.put o.dst u) w:=by
 have hi:i < listed.size:=by rw [hM.sz];exact lt_of_op ho
 have hdt:∀ t,o.dst = some t → t < a.tmps.size:=fun t ht => by rw [hM.az];exact (hC.dt i o t ho ht).1
 have ne1:∀ j (oj:Oper),ops[j]? = some oj → kindOf oj.op = 1 → j ≠ i:=fun j oj hj hkj e => by subst e;rw [ho] at hj;cases hj;rw [hk] at hkj;cases hkj
 refine ⟨by simpa using hM.sz,Cls_set hM.cl hi ho hed,fun f hf hl => ?_,fun f of hf hkf hre => (Lst_set hi).2 (.inr (hM.lf f of hf hkf hre)),fun j hj hjs => (Lst_set hi).2 (.inr (hM.lm j hj hjs)),
  fun j hjs hl => ?_,hM.em,hM.st,by rw [put_defers];exact hM.df,by rw [put_size];exact hM.az,fun j oj t hj hl ht => ?_,fun t htm hno => ?_,fun j oj hj hkj hnlj => hM.an j oj hj hkj fun c => hnlj ((Lst_set hi).2 (.inr c)),hM.ad,
  fun j oj hj hkj hl hcm => ?_,hM.ax,by rw [put_defers];exact hM.ak⟩
 ·rcases (Lst_set hi).1 hl with rfl | hl
  ·rw [hf] at hri;cases hri
  ·exact hM.lr f hf hl
 ·rcases (Lst_set hi).1 hl with rfl | hl
  ·exact hev
  ·exact hM.le j hjs hl
 ·by_cases e:j = i
  ·subst e
   rw [ho] at hj
   cases hj
   rw [ht,put_at (hdt t ht)]
   exact hu t ht
  ·rcases (Lst_set hi).1 hl with c | hl
   ·exact absurd c e
   ·rw [put_ne fun c => e (hC.dd j i oj o t hj ho ht c)]
    exact hM.v1 j oj t hj hl ht
 ·rw [put_ne fun c => hno i o ho c ((Lst_set hi).2 (.inl rfl))]
  exact hM.v2 t htm fun j oj hj ht hl => hno j oj hj ht ((Lst_set hi).2 (.inr hl))
 ·rcases (Lst_set hi).1 hl with c | hl
  ·exact absurd c (ne1 j oj hj hkj)
  ·obtain ⟨w1,u1,ob,q1,q2⟩:=hM.ai j oj hj hkj hl hcm
   exact ⟨w1,u1,ob,by rw [exec_put hC hM.cl ho hnl hj hkj hl];exact q1,q2⟩
theorem MInv.laid (hC:Chk g nt lc pk fM ops) (hM:MInv P g lk b lo nt pk ops T0 ρ0 h0 w0 T h n ev rem cm listed ρ a w) {i:Nat} {o:Oper} (ho:ops[i]? = some o) (hnl:¬ Lst listed i) (hk:kindOf o.op = 1)
  (hed:∀ e ∈ o.after,bindsE e = true → Lst listed e.on) (hri:memN i rem = false) (hev:memN i ev = true) (hcm:memN i cm = false) {u:Value} {ob:Obj} (hrun:(execOp a.eval o).run P w = .ok (.value u) (w.alloc ob))
  (hu:∀ t,o.dst = some t → ∀ ρ':Rho,ρ.le ρ' → ρ' (b + i) = some ⟨w.heap.size,0,obR ob⟩ → VR ρ' (T.get t) u) :
  MInv P g lk b lo nt pk ops T0 ρ0 h0 w0 T h n ev rem cm (listed.setIfInBounds i true) (ρ.up (b + i) ⟨w.heap.size,0,obR ob⟩) (a.put o.dst u) (w.alloc ob):=by
 have hi:i < listed.size:=by rw [hM.sz];exact lt_of_op ho
 have hdt:∀ t,o.dst = some t → t < a.tmps.size:=fun t ht => by rw [hM.az];exact (hC.dt i o t ho ht).1
 obtain ⟨had1,had2⟩:=hM.ad i o ho hk
 have had2:=had2 hcm
 have han:=hM.an i o ho hk hnl
 have E1:Emb g lk ρ h n (w.alloc ob):=hM.em.keep (by simp) fun c pl h1 h2 h3 => heap_alloc_old w ob pl.B (hM.em.bd c pl h3).2
 have S1:Stp lk ρ0 h0 b w0 ρ h n (w.alloc ob):=⟨hM.st.ext,hM.st.nn,hM.st.os,hM.st.tape,hM.st.output,Nat.le_trans hM.st.sz (by simp),fun B hB hno => by
   rw [heap_alloc_old w ob B (Nat.lt_of_lt_of_le hB hM.st.sz)]
   exact hM.st.unt B hB hno,hM.st.own,hM.st.lck,hM.st.ded,hM.st.nop⟩
 obtain ⟨hl,E2⟩:=E1.place (pl:=⟨w.heap.size,0,obR ob⟩) had1 han had2 (by simp)
 have S2:=S1.place (pl:=⟨w.heap.size,0,obR ob⟩) (c:=b + i) (fun c => by omega) han had2
 have upn:∀ c,c ≠ b + i → (ρ.up (b + i) ⟨w.heap.size,0,obR ob⟩) c = ρ c:=fun c hc => by simp [Rho.up,hc]
 have liv:∀ c,(hget h c).1 ≠ 0 → c ≠ b + i:=fun c hc e => hc (e ▸ had2)
 refine ⟨by simpa using hM.sz,Cls_set hM.cl hi ho hed,fun f hf hl => ?_,fun f of hf hkf hre => (Lst_set hi).2 (.inr (hM.lf f of hf hkf hre)),fun j hj hjs => (Lst_set hi).2 (.inr (hM.lm j hj hjs)),
  fun j hjs hl => ?_,E2,S2,?_,by rw [put_size];exact hM.az,fun j oj t hj hlj ht => ?_,fun t htm hno => ?_,fun j oj hj hkj hnlj => ?_,hM.ad,
  fun j oj hj hkj hlj hcmj => ?_,fun j j' oj oj' pl pl' hj hj' hkj hkj' hcj hcj' hne hp hp' => ?_,fun j oj pl hj hkj hcj hp d hd => ?_⟩
 ·rcases (Lst_set hi).1 hl with rfl | hl
  ·rw [hf] at hri;cases hri
  ·exact hM.lr f hf hl
 ·rcases (Lst_set hi).1 hl with rfl | hl
  ·exact hev
  ·exact hM.le j hjs hl
 ·rw [put_defers]
  refine ⟨fun d hd => ?_,hM.df.nd⟩
  obtain ⟨D,e,hlo,hw,hn⟩:=hM.df.al d hd
  have hD:D < w.heap.size:=(Array.getElem?_eq_some_iff.1 hw).1
  refine ⟨D,e,hlo,by rw [heap_alloc_old w ob D hD];exact hw,fun c pl h1 h2 h3 => ?_⟩
  rw [upn c (liv c h2)] at h3
  exact hn c pl h1 h2 h3
 ·by_cases e:j = i
  ·subst e
   rw [ho] at hj
   cases hj
   rw [ht,put_at (hdt t ht)]
   exact hu t ht _ hl (Rho.up_same _ _ _)
  ·rcases (Lst_set hi).1 hlj with c | hlj
   ·exact absurd c e
   ·rw [put_ne fun c => e (hC.dd j i oj o t hj ho ht c)]
    exact (hM.v1 j oj t hj hlj ht).mono hl
 ·rw [put_ne fun c => hno i o ho c ((Lst_set hi).2 (.inl rfl))]
  exact (hM.v2 t htm fun j oj hj ht hlj => hno j oj hj ht ((Lst_set hi).2 (.inr hlj))).mono hl
 ·have e:j ≠ i:=fun e => hnlj ((Lst_set hi).2 (.inl e))
  rw [upn _ (by omega)]
  exact hM.an j oj hj hkj fun c => hnlj ((Lst_set hi).2 (.inr c))
 ·by_cases e:j = i
  ·subst e
   rw [ho] at hj
   cases hj
   refine ⟨w,u,ob,?_,Rho.up_same _ _ _,heap_alloc_new w ob,hM.st.sz,fun c pl h1 h2 h3 => ?_⟩
   ·rw [execOp_congr o (alloc_nosel hk) (eval_put fun t ht hm => absurd (anc_lt hC ho (alloc_free hC ho hk ho ht (wt_op hm))) (by omega))]
    exact hrun
   ·rw [upn c (liv c h2)] at h3
    have:=(hM.em.bd c pl h3).2
    omega
  ·rcases (Lst_set hi).1 hlj with c | hlj
   ·exact absurd c e
   ·obtain ⟨w1,u1,ob1,q1,q2,q3,q4,q5⟩:=hM.ai j oj hj hkj hlj hcmj
    have hB:w1.heap.size < w.heap.size:=(Array.getElem?_eq_some_iff.1 q3).1
    refine ⟨w1,u1,ob1,by rw [exec_put hC hM.cl ho hnl hj hkj hlj];exact q1,by rw [upn _ (by omega)];exact q2,by rw [heap_alloc_old w ob _ hB];exact q3,q4,fun c pl h1 h2 h3 => ?_⟩
    rw [upn c (liv c h2)] at h3
    exact q5 c pl h1 h2 h3
 ·by_cases e:j = i
  ·subst e
   simp only [Rho.up_same,Option.some.injEq] at hp
   rw [upn _ (by omega)] at hp'
   have:=(hM.em.bd _ pl' hp').2
   subst hp
   change w.heap.size ≠ pl'.B
   omega
  ·rw [upn _ (by omega)] at hp
   by_cases e':j' = i
   ·subst e'
    simp only [Rho.up_same,Option.some.injEq] at hp'
    have:=(hM.em.bd _ pl hp).2
    subst hp'
    change pl.B ≠ w.heap.size
    omega
   ·rw [upn _ (by omega)] at hp'
    exact hM.ax j j' oj oj' pl pl' hj hj' hkj hkj' hcj hcj' hne hp hp'
 ·rw [put_defers] at hd
  by_cases e:j = i
  ·subst e
   simp only [Rho.up_same,Option.some.injEq] at hp
   subst hp
   obtain ⟨D,e,_,hw,_⟩:=hM.df.al d hd
   have hD:D < w.heap.size:=(Array.getElem?_eq_some_iff.1 hw).1
   rw [e]
   intro c
   have c:D = w.heap.size:=by injection c
   omega
  ·rw [upn _ (by omega)] at hp
   exact hM.ak j oj pl hj hkj hcj hp d hd
structure Mat (P:Program) (g lk b:Nat) (ops:Array Oper) (ρ0:Rho) (h0:Heap) (w0:World) (h:Heap) (n j mm cm:Nat) (ρ:Rho) (w:World) (hc:Heap):Prop where
 em:Emb g lk ρ hc n w
 st:Stp lk ρ0 h0 b w0 ρ hc n w
 nw:∀ c,c < n → hget hc c = hget h c ∨ ∃ (i:Nat) (oi:Oper),c = b + i ∧ i < j ∧ ops[i]? = some oi ∧ kindOf oi.op = 1 ∧ memN i mm = true ∧ memN i cm = false
theorem mat_ok (hA:AllocsOK P H) (hC:Chk g nt lc pk fM ops) (hM:MInv P g lk b lo nt pk ops T0 ρ0 h0 w0 T h n ev rem cm listed ρ a w) (hlk:lk ≤ b) {mm:Nat} (hmm:∀ i (oi:Oper),ops[i]? = some oi → kindOf oi.op = 1 → memN i mm = true → Lst listed i)
  (hT:∀ i (oi:Oper),ops[i]? = some oi → kindOf oi.op = 1 → Lst listed i → TR ρ T a (wtOf ops oi)) {rest:DF} {cx:Cx} {e:Ex} {T':Tmps} {h':Heap} {n':Nat} :
  ∀ (l:List Oper) (j:Nat) (hc:Heap),(∀ i,l[i]? = ops[j + i]?) → Mat P g lk b ops ρ0 h0 w0 h n j mm cm ρ w hc → (matD P H mm cm rest l j).1 cx b T hc n = .fin e T' h' n' →
   ∃ hc',rest.1 cx b T hc' n = .fin e T' h' n' ∧ Mat P g lk b ops ρ0 h0 w0 h n ops.size mm cm ρ w hc'
 | [],j,hc,hl,hm,hk => ⟨hc,hk,hm.em,hm.st,fun c hcn => (hm.nw c hcn).imp id fun ⟨i,oi,q1,_,q3,q4⟩ => ⟨i,oi,q1,lt_of_op q3,q3,q4⟩⟩
 | o :: l,j,hc,hl,hm,hk => by
  have hoj:ops[j]? = some o:=by have:=hl 0;simpa using this.symm
  have hl':∀ i,l[i]? = ops[(j + 1) + i]?:=fun i => by have:=hl (i + 1);rw [show j + (i + 1) = j + 1 + i by omega] at this;simpa using this
  have hk:(bK (Nat.beq (kindOf o.op) (nat_lit 1)) (bK (memN j mm) (bK (memN j cm) (fT (Nat.succ j) (matD P H mm cm rest l)) (laidD P H o j (fT (Nat.succ j) (matD P H mm cm rest l)))) (fT (Nat.succ j) (matD P H mm cm rest l))) (fT (Nat.succ j) (matD P H mm cm rest l))).1 cx b T hc n = .fin e T' h' n':=hk
  simp only [fT_eq] at hk
  have pass:(matD P H mm cm rest l (j + 1)).1 cx b T hc n = .fin e T' h' n' → ∃ hc',rest.1 cx b T hc' n = .fin e T' h' n' ∧ Mat P g lk b ops ρ0 h0 w0 h n ops.size mm cm ρ w hc':=fun hk =>
   mat_ok hA hC hM hlk hmm hT l (j + 1) hc hl' ⟨hm.em,hm.st,fun c hcn => (hm.nw c hcn).imp id fun ⟨i,oi,q1,q2,q3⟩ => ⟨i,oi,q1,by omega,q3⟩⟩ hk
  by_cases h1:kindOf o.op = 1
  ·rw [nbT h1] at hk
   cases hb:memN j mm with
   | false => rw [hb] at hk;exact pass hk
   | true =>
    rw [hb] at hk
    cases hcm:memN j cm with
    | true => rw [hcm] at hk;exact pass hk
    | false =>
     rw [hcm] at hk
     have hk:(allocR P H o j).1 cx b T hc n (fun _ h _ => (matD P H mm cm rest l (j + 1)).1 cx b T h n) = .fin e T' h' n':=hk
     obtain ⟨v,ao,hmx,e1,hf⟩:=allocR_al (ops:=ops) hA h1 (hC.gl j o hoj) (fin_ok hk)
     rw [e1] at hk
     have hlj:=hmm j o hoj h1 hb
     obtain ⟨w1,u,ob,q1,q2,q3,q4,q5⟩:=hM.ai j o hoj h1 hlj hcm
     obtain ⟨u',ob',r1,r2⟩:=hf ρ a w1 hM.em.gl (hT j o hoj h1 hlj)
     rw [q1] at r1
     have hob:ob' = ob:=by
      have r1:=(Result.ok.inj r1).2
      have r2:=heap_alloc_new w1 ob
      have r3:=heap_alloc_new w1 ob'
      rw [← r1,r2] at r3
      exact (Option.some.inj r3).symm
     subst hob
     obtain ⟨_,r3⟩:=r2 ρ w (Rho.le_refl _) q2 q3
     have had:=hM.ad j o hoj h1
     refine mat_ok hA hC hM hlk hmm hT l (j + 1) (hset hc (b + j) ao) hl' ⟨hm.em.adopt had.1 q2 r3 fun c q hcn hct hcp => ?_,hm.st.adopt hm.em.nb (by omega) hlk had.1 q2 q4,fun c hcn => ?_⟩ hk
     ·rcases hm.nw c hcn with x | ⟨i,oi,x1,x2,x3,x4,x5,x6⟩
      ·rw [x] at hct
       exact q5 c q hcn hct hcp
      ·rw [x1] at hcp
       exact hM.ax i j oi o q _ x3 hoj x4 h1 x6 hcm (by omega) hcp q2
     ·have hnb:=hm.em.nb
      by_cases e2:c = b + j
      ·exact .inr ⟨j,o,e2,by omega,hoj,h1,hb,hcm⟩
      ·rw [hget_hset hc (b + j) c ao hmx (by omega),if_neg e2]
       exact (hm.nw c hcn).imp id fun ⟨i,oi,q1,q2,q3⟩ => ⟨i,oi,q1,by omega,q3⟩
  ·rw [nbF h1] at hk
   exact pass hk
end EV
end
noncomputable section
namespace EV
open Go
variable {P:Program} {g:Nat} {H:Nat → HE} {nt lc pk fM:Nat} {ops:Array Oper}
def unl (ops:Array Oper) (listed:Array Bool):Nat:=(List.range ops.size).countP fun j => !listed.getD j false
theorem countP_flip {p q:Nat → Bool} {i:Nat}:∀ {l:List Nat},l.Nodup → i ∈ l → (∀ j,j ≠ i → q j = p j) → p i = true → q i = false → l.countP q + 1 = l.countP p
 | [],_,h,_,_,_ => by simp at h
 | x :: l,hn,hm,he,hp,hq => by
  obtain ⟨n1,n2⟩:=List.nodup_cons.1 hn
  by_cases e:x = i
  ·subst e
   have:l.countP q = l.countP p:=List.countP_congr fun y hy => by rw [he y fun c => n1 (c ▸ hy)]
   simp [List.countP_cons,hp,hq,this]
  ·have hm':i ∈ l:=by rcases List.mem_cons.1 hm with c | c;exact absurd c.symm e;exact c
   have ih:=countP_flip n2 hm' he hp hq
   simp only [List.countP_cons,he x e]
   omega
theorem unl_set {listed:Array Bool} (hs:listed.size = ops.size) {i:Nat} (hi:i < ops.size) (hl:¬ Lst listed i):unl ops (listed.setIfInBounds i true) + 1 = unl ops listed:=by
 unfold unl
 refine countP_flip (i:=i) List.nodup_range (by simpa using hi) (fun j hj => ?_) ?_ ?_
 ·rw [getD_set_ne false (Ne.symm hj)]
 ·unfold Lst at hl
  cases h:listed.getD i false with
  | true => exact absurd h hl
  | false => rfl
 ·have:Lst (listed.setIfInBounds i true) i:=(Lst_set (by omega)).2 (.inl rfl)
  unfold Lst at this
  rw [this];rfl
theorem unl_zero {listed:Array Bool} (h:unl ops listed ≤ 0):∀ j,j < ops.size → Lst listed j:=fun j hj => by
 unfold unl at h
 have h0:=List.countP_eq_zero.1 (Nat.le_zero.1 h) j (by simpa using hj)
 unfold Lst
 cases hh:listed.getD j false with
 | true => rfl
 | false => rw [hh] at h0;exact absurd rfl h0
section
variable {lk b lo:Nat} {T0 T:Tmps} {ρ0 ρ:Rho} {h0 h:Heap} {w0 w:World} {n ev rem cm:Nat} {listed:Array Bool} {a:Act} {ro:Option Nat} {Q:Exit → Act → World → Prop}
theorem read_nodefer {o:Oper} (h:kindOf o.op ≠ 2):∀ c,o.op ≠ .defer c:=fun c e => h (by rw [e];rfl)
theorem mid_ok (hC:Chk g nt lc pk fM ops) (hS:SInv pk fM ops T0 T ev) {T1:Tmps} {ev1:Nat} (hr:RevOut P g lk b ops pk rem cm T T1 h n ev ev1 0)
  (hrem:∀ i (oi:Oper),ops[i]? = some oi → kindOf oi.op ≠ 2 → memN i rem = false)
  (hend:∀ listed ρ a w,MInv P g lk b lo nt pk ops T0 ρ0 h0 w0 T1 h n ev1 rem cm listed ρ a w → (∀ j,j < ops.size → Lst listed j) → Q .normal a w)
  (hfull:∀ i (o:Oper) listed ρ a w fuel,ops[i]? = some o → kindOf o.op = 2 → ¬ Lst listed i → (∀ e ∈ o.after,bindsE e = true → Lst listed e.on) → unl ops (listed.setIfInBounds i true) ≤ fuel →
   MInv P g lk b lo nt pk ops T0 ρ0 h0 w0 T1 h n ev1 rem cm listed ρ a w → wpOpIn (FR ro) 0 P ops Q i (wpAnyIn (FR ro) 0 P .any ops Q fuel (listed.setIfInBounds i true)) a w) :
  ∀ (fuel:Nat) (listed:Array Bool) (ρ:Rho) (a:Act) (w:World),unl ops listed ≤ fuel → MInv P g lk b lo nt pk ops T0 ρ0 h0 w0 T1 h n ev1 rem cm listed ρ a w → wpAnyIn (FR ro) 0 P .any ops Q fuel listed a w
 | 0,listed,ρ,a,w,hu,hM => by
  have hall:=unl_zero hu
  refine ⟨?_,hend listed ρ a w hM hall⟩
  cases hre:Region.ready .any ops listed with
  | nil => rfl
  | cons i l =>
   obtain ⟨h1,o,h2,_⟩:=ready_edges (ops:=ops) (listed:=listed) (j:=i) (by rw [hre];simp)
   exact absurd (hall i (lt_of_op h2)) (not_Lst h1)
 | fuel + 1,listed,ρ,a,w,hu,hM => by
  refine ⟨fun hre => hend listed ρ a w hM (ready_none hC hM.sz hre),fun i hi => ?_⟩
  obtain ⟨h1,o,ho,hed⟩:=ready_edges hi
  have hnl:=not_Lst h1
  have hun:=unl_set hM.sz (lt_of_op ho) hnl
  by_cases hk2:kindOf o.op = 2
  ·exact hfull i o listed ρ a w fuel ho hk2 hnl hed (by omega) hM
  ·have hland:Nat.beq (Nat.land (m64 pk i) rem) 0 = true:=land_zero_iff fun t ht => by
    cases hh:memN t rem with
    | false => rfl
    | true => exact absurd (anc_of_edges hC hM.cl ho hed ht) (hM.lr t hh)
   obtain ⟨q1,q2⟩:=hr.all i o (Nat.zero_le _) ho hk2 hland
   have hcm:memN i cm = false:=by
    cases hh:memN i cm with
    | false => rfl
    | true => exact absurd (hM.lm i hh (lt_of_op ho)) hnl
   obtain ⟨Ti,v,p1,p2,p3,p4⟩:=q2 hcm
   have hTR:=ti_rel hC hS hr hM ho hnl hed p3 p4
   rcases p2 with ⟨k0,hf⟩ | ⟨k1,ao,hf⟩
   ·unfold wpOpIn
    simp only [ho]
    rcases hf ρ a w hM.em hTR with ⟨hw,u,r1,r2⟩ | ⟨hw,r2⟩
    ·rw [if_pos hw]
     refine ⟨fun _ _ => trivial,?_⟩
     rw [Oper.semAt_eq _ _ _ (read_nodefer hk2),r1]
     exact mid_ok hC hS hr hrem hend hfull fuel _ ρ _ w (by omega) (hM.read hC ho hnl k0 hed (hrem i o ho hk2) q1 fun t ht => by rw [← p1 t ht];exact r2)
    ·rw [if_neg (by rw [hw];exact Bool.false_ne_true)]
     exact ⟨fun _ _ => trivial,mid_ok hC hS hr hrem hend hfull fuel _ ρ _ w (by omega) (hM.read hC ho hnl k0 hed (hrem i o ho hk2) q1 fun t ht => by rw [← p1 t ht];exact r2)⟩
   ·unfold wpOpIn
    simp only [ho]
    have hw:Region.wanted o (yielded ops a.tmps) = true:=by simp [Region.wanted,(hC.al i o ho k1).1]
    obtain ⟨u,ob,r1,r2⟩:=hf ρ a w hM.em.gl hTR
    rw [if_pos hw]
    refine ⟨fun _ _ => trivial,?_⟩
    rw [Oper.semAt_eq _ _ _ (read_nodefer hk2),r1]
    refine mid_ok hC hS hr hrem hend hfull fuel _ (ρ.up (b + i) ⟨w.heap.size,0,obR ob⟩) _ (w.alloc ob) (by omega) (hM.laid hC ho hnl k1 hed (hrem i o ho hk2) q1 hcm r1 fun t ht ρ' hl hp => ?_)
    rw [← p1 t ht]
    exact (r2 ρ' (w.alloc ob) hl hp (heap_alloc_new w ob)).1
end
theorem maskL_mem {f:Nat}:∀ {fs:List Nat},memN f (maskL fs) = true ↔ f ∈ fs
 | [] => by
  change memN f 0 = true ↔ _
  rw [memN_zero];simp
 | x :: fs => by
  change memN f (Nat.lor (bit x) (maskL fs)) = true ↔ _
  rw [memN_lor,memN_bit]
  have:=maskL_mem (f:=f) (fs:=fs)
  simp only [Bool.or_eq_true,decide_eq_true_eq,List.mem_cons,this]
theorem fullL_mem {f:Nat}:∀ (l:List Oper) (j:Nat),f ∈ fullL l j ↔ ∃ k o,l[k]? = some o ∧ kindOf o.op = 2 ∧ f = j + k
 | [],j => by
  change f ∈ [] ↔ _
  simp
 | x :: l,j => by
  have ih:=fullL_mem (f:=f) l (j + 1)
  have e:fullL (x :: l) j = bK (Nat.beq (kindOf x.op) 2) (j :: fullL l (j + 1)) (fullL l (j + 1)):=by
   change bK (Nat.beq (kindOf x.op) 2) (fT j fun j => j :: fullL l (Nat.succ j)) (fullL l (Nat.succ j)) = _
   rw [fT_eq]
  rw [e]
  have shift:(∃ k o,l[k]? = some o ∧ kindOf o.op = 2 ∧ f = j + 1 + k) ↔ ∃ k o,(x :: l)[k + 1]? = some o ∧ kindOf o.op = 2 ∧ f = j + (k + 1):=by
   constructor
   ·rintro ⟨k,o,h1,h2,h3⟩;exact ⟨k,o,by simpa using h1,h2,by omega⟩
   ·rintro ⟨k,o,h1,h2,h3⟩;exact ⟨k,o,by simpa using h1,h2,by omega⟩
  by_cases hk:kindOf x.op = 2
  ·rw [nbT hk]
   change f ∈ j :: fullL l (j + 1) ↔ _
   rw [List.mem_cons,ih,shift]
   constructor
   ·rintro (rfl | ⟨k,o,h1,h2,h3⟩)
    ·exact ⟨0,x,rfl,hk,rfl⟩
    ·exact ⟨k + 1,o,h1,h2,h3⟩
   ·rintro ⟨k,o,h1,h2,h3⟩
    cases k with
    | zero => exact .inl (by omega)
    | succ k => exact .inr ⟨k,o,h1,h2,h3⟩
  ·rw [nbF hk]
   change f ∈ fullL l (j + 1) ↔ _
   rw [ih,shift]
   constructor
   ·rintro ⟨k,o,h1,h2,h3⟩;exact ⟨k + 1,o,h1,h2,h3⟩
   ·rintro ⟨k,o,h1,h2,h3⟩
    cases k with
    | zero => simp at h1;subst h1;exact absurd h2 hk
    | succ k => exact ⟨k,o,h1,h2,h3⟩
theorem full_iff {f:Nat}:f ∈ fullL ops.toList 0 ↔ ∃ o,ops[f]? = some o ∧ kindOf o.op = 2:=by
 rw [fullL_mem]
 constructor
 ·rintro ⟨k,o,h1,h2,h3⟩;exact ⟨o,by rw [h3,Nat.zero_add];simpa using h1,h2⟩
 ·rintro ⟨o,h1,h2⟩;exact ⟨f,o,ops_at h1,h2,by omega⟩
theorem chain_tail {f:Nat} {fs:List Nat} (h:chain pk (f :: fs) = true):chain pk fs = true:=by
 cases fs with
 | nil => rfl
 | cons f' fs => exact (bK_t (show bK (memN f (m64 pk f')) (chain pk (f' :: fs)) false = true from h)).2
theorem chain_lst (hC:Chk g nt lc pk fM ops) {listed:Array Bool} (hc:Cls ops listed):∀ {fs:List Nat} {f:Nat},chain pk (f :: fs) = true → (∀ x ∈ fs,x < ops.size) → ∀ i ∈ fs,∀ o,ops[i]? = some o → (∀ e ∈ o.after,bindsE e = true → Lst listed e.on) → Lst listed f
 | [],_,_,_,i,hi,_,_,_ => by simp at hi
 | f' :: fs,f,h,hs,i,hi,o,ho,hed => by
  obtain ⟨h1,h2⟩:=bK_t (show bK (memN f (m64 pk f')) (chain pk (f' :: fs)) false = true from h)
  rcases List.mem_cons.1 hi with rfl | hi
  ·exact anc_of_edges hC hc ho hed h1
  ·have:=chain_lst hC hc (fs:=fs) (f:=f') h2 (fun x hx => hs x (by simp [hx])) i hi o ho hed
   obtain ⟨o',ho'⟩:=op_at (ops:=ops) (hs f' (by simp))
   exact anc_listed hC hc ho' this h1
theorem chain_ne (hC:Chk g nt lc pk fM ops):∀ {fs:List Nat} {f:Nat},chain pk (f :: fs) = true → (∀ x ∈ fs,x < ops.size) → ∀ i ∈ fs,f < i
 | [],_,_,_,i,hi => by simp at hi
 | f' :: fs,f,h,hs,i,hi => by
  obtain ⟨h1,h2⟩:=bK_t (show bK (memN f (m64 pk f')) (chain pk (f' :: fs)) false = true from h)
  obtain ⟨o',ho'⟩:=op_at (ops:=ops) (hs f' (by simp))
  have:=anc_lt hC ho' h1
  rcases List.mem_cons.1 hi with rfl | hi
  ·exact this
  ·exact Nat.lt_trans this (chain_ne hC h2 (fun x hx => hs x (by simp [hx])) i hi)
theorem chain_drop {fs:List Nat}:∀ {pre:List Nat},chain pk (pre ++ fs) = true → chain pk fs = true
 | [],h => h
 | _ :: pre,h => chain_drop (pre:=pre) (chain_tail h)
end EV
end
noncomputable section
namespace EV
open Go
variable {P:Program} {g:Nat} {H:Nat → HE} {nt lc pk fM:Nat} {ops:Array Oper}
variable {lk b lo:Nat} {T0 T:Tmps} {ρ0 ρ:Rho} {h0 h:Heap} {w0 w:World} {n ev rem cm:Nat} {listed:Array Bool} {a:Act} {ro:Option Nat} {Q:Exit → Act → World → Prop}
def TSet (ops:Array Oper) (T0 T:Tmps) (ev:Nat):Prop:=∀ t,t < maxTmps → (∀ i (oi:Oper),ops[i]? = some oi → oi.dst = some t → memN i ev = false) → T.get t = T0.get t
theorem tr_done (hC:Chk g nt lc pk fM ops) {T1:Tmps} {ev1:Nat} (hS:TSet ops T0 T1 ev1)
  (hM:MInv P g lk b lo nt pk ops T0 ρ0 h0 w0 T1 h n ev1 rem cm listed ρ a w) {i:Nat} {o:Oper} (ho:ops[i]? = some o)
  (hw:∀ t ∈ wtOf ops o,∀ i' (oi':Oper),ops[i']? = some oi' → oi'.dst = some t → Lst listed i' ∨ (¬ Lst listed i' ∧ memN i' ev1 = false)):TR ρ T1 a (wtOf ops o):=by
 intro t ht hm
 by_cases hx:∃ (i':Nat) (oi':Oper),ops[i']? = some oi' ∧ oi'.dst = some t
 ·obtain ⟨i',oi',hi',hd'⟩:=hx
  rcases hw t ht i' oi' hi' hd' with hl | ⟨hl,hev⟩
  ·exact hM.v1 i' oi' t hi' hl hd'
  ·rw [hS t hm fun x ox hx hdx => by rw [hC.dd x i' ox oi' t hx hi' hdx hd'];exact hev]
   exact hM.v2 t hm fun x ox hx hdx => by rw [hC.dd x i' ox oi' t hx hi' hdx hd'];exact hl
 ·have no:∀ x (ox:Oper),ops[x]? = some ox → ox.dst = some t → False:=fun x ox hx' hdx => hx ⟨x,ox,hx',hdx⟩
  rw [hS t hm fun x ox hx hdx => (no x ox hx hdx).elim]
  exact hM.v2 t hm fun x ox hx hdx => (no x ox hx hdx).elim
theorem tr_alloc (hC:Chk g nt lc pk fM ops) {T1:Tmps} {ev1:Nat} (hS:TSet ops T0 T1 ev1)
  (hM:MInv P g lk b lo nt pk ops T0 ρ0 h0 w0 T1 h n ev1 rem cm listed ρ a w) {i:Nat} {o:Oper} (ho:ops[i]? = some o) (hk:kindOf o.op = 1) (hl:Lst listed i):TR ρ T1 a (wtOf ops o):=
 tr_done hC hS hM ho fun t ht i' oi' hi' hd' => .inl (anc_listed hC hM.cl ho hl (alloc_free hC ho hk hi' hd' ht))
theorem TSet.rev (hS:SInv pk fM ops T0 T ev) {T1:Tmps} {ev1:Nat} (hr:RevOut P g lk b ops pk rem cm T T1 h n ev ev1 0):TSet ops T0 T1 ev1:=fun t ht hno => by
  rw [hr.keep t ht fun i oi hi hd c => by rw [hno i oi hi hd] at c;exact absurd c.2.2 (by simp)]
  exact hS.ts t ht fun i oi hi hd => by
   cases hev:memN i ev with
   | false => rfl
   | true => have:=hr.sub i hev;rw [hno i oi hi hd] at this;cases this
theorem SInv.rev (hS:SInv pk fM ops T0 T ev) {T1:Tmps} {ev1:Nat} (hr:RevOut P g lk b ops pk rem cm T T1 h n ev ev1 0) {f:Nat} (hf:memN f fM = true) (hfr:memN f rem = true):SInv pk fM ops T0 T1 ev1:=by
 refine ⟨TSet.rev hS hr,fun j o ho hj hk => ?_⟩
 ·rcases hr.new j hj with c | ⟨_,oj,hoj,hkj,hl⟩
  ·exact hS.ei j o ho c hk
  ·refine ⟨f,hf,?_⟩
   cases hh:memN f (m64 pk j) with
   | false => rfl
   | true => rw [land_zero hl hh] at hfr;cases hfr
theorem MInv.rev (hC:Chk g nt lc pk fM ops) (hnt:nt ≤ maxTmps) (hM:MInv P g lk b lo nt pk ops T0 ρ0 h0 w0 T h n ev rem cm listed ρ a w) {T1:Tmps} {ev1:Nat} (hr:RevOut P g lk b ops pk rem cm T T1 h n ev ev1 0) :
  MInv P g lk b lo nt pk ops T0 ρ0 h0 w0 T1 h n ev1 rem cm listed ρ a w:=
 ⟨hM.sz,hM.cl,hM.lr,hM.lf,hM.lm,fun j hj hl => hr.sub j (hM.le j hj hl),hM.em,hM.st,hM.df,hM.az,fun j o t ho hl ht => by
  have htm:t < maxTmps:=Nat.lt_of_lt_of_le (hC.dt j o t ho ht).1 hnt
  rw [hr.keep t htm fun i oi hi hd c => by
   have e:=hC.dd i j oi o t hi ho hd ht
   subst e
   have:=hM.le i (lt_of_op ho) hl
   rw [c.2.1] at this
   cases this]
  exact hM.v1 j o t ho hl ht,hM.v2,hM.an,hM.ad,hM.ai,hM.ax,hM.ak⟩
theorem Mat.start (hM:MInv P g lk b lo nt pk ops T0 ρ0 h0 w0 T h n ev rem cm listed ρ a w) {mm:Nat}:Mat P g lk b ops ρ0 h0 w0 h n 0 mm cm ρ w h:=⟨hM.em,hM.st,fun _ _ => .inl rfl⟩
theorem df_heap {hc:Heap} {mm:Nat} (hM:MInv P g lk b lo nt pk ops T0 ρ0 h0 w0 T h n ev rem cm listed ρ a w) (hm:Mat P g lk b ops ρ0 h0 w0 h n ops.size mm cm ρ w hc):Df lo ρ hc n w a.defers:=by
 refine ⟨fun d hmem => ?_,hM.df.nd⟩
 obtain ⟨D,e,hlo,hw,hn⟩:=hM.df.al d hmem
 refine ⟨D,e,hlo,hw,fun c pl h1 h2 h3 he => ?_⟩
 rcases hm.nw c h1 with x | ⟨i,oi,x1,x2,x3,x4,x5,x6⟩
 ·rw [x] at h2
  exact hn c pl h1 h2 h3 he
 ·rw [x1] at h3
  have:=hM.ak i oi pl x3 x4 x6 h3 d hmem
  rw [e,he] at this
  exact this rfl
theorem end_ok (hA:AllocsOK P H) (hC:Chk g nt lc pk fM ops) (hnt:nt ≤ maxTmps) (hlk:lk ≤ b) {T1:Tmps} {ev1:Nat} (hS:TSet ops T0 T1 ev1) (hL:∀ t,t < maxTmps → memN t lc = true → T0.get t = undefA)
  (hM:MInv P g lk b lo nt pk ops T0 ρ0 h0 w0 T1 h n ev1 0 cm listed ρ a w) (hall:∀ j,j < ops.size → Lst listed j) {cx:Cx} {e:Ex} {T':Tmps} {h':Heap} {n':Nat}
  (hk:(matD P H 18446744073709551615 cm ⟨fun _ _ T h n => .fin .normal T h n⟩ ops.toList 0).1 cx b T1 h n = .fin e T' h' n'):Post g lk nt lc lo ρ0 h0 b w0 e T' h' n' .normal a w:=by
 obtain ⟨hc,hk,hm⟩:=mat_ok (mm:=18446744073709551615) hA hC hM hlk (fun i oi hi _ _ => hall i (lt_of_op hi)) (fun i oi hi hki hl => tr_alloc hC hS hM hi hki hl) ops.toList 0 h (fun i => by simp) (Mat.start hM) hk
 have hk:Ans.fin .normal T1 hc n = .fin e T' h' n':=hk
 cases hk
 refine ⟨trivial,ρ,⟨⟨hM.az,hnt,fun t ht => ?_⟩,fun t ht hm => ?_⟩,df_heap hM hm,hm.em,hm.st⟩
 ·by_cases hx:∃ (i':Nat) (oi':Oper),ops[i']? = some oi' ∧ oi'.dst = some t
  ·obtain ⟨i',oi',hi',hd'⟩:=hx
   exact hM.v1 i' oi' t hi' (hall i' (lt_of_op hi')) hd'
  ·rw [hS t ht fun x ox hx' hdx => absurd ⟨x,ox,hx',hdx⟩ hx]
   exact hM.v2 t ht fun x ox hx' hdx => absurd ⟨x,ox,hx',hdx⟩ hx
 ·rw [hS t ht fun x ox hx' hdx => by have:=(hC.dt x ox t hx' hdx).2;rw [hm] at this;cases this]
  exact hL t ht hm
theorem stage_ok (hR:ReadsOK P g H) (hA:AllocsOK P H) (hO:OpsOK P g H) (hC:Chk g nt lc pk fM ops) (hnt:nt ≤ maxTmps) (hlk:lk ≤ b) (hL:∀ t,t < maxTmps → memN t lc = true → T0.get t = undefA) {ih:IH} (hI:IHok P g ih)
  {e:Ex} {T':Tmps} {h':Heap} {n':Nat} (hQ:∀ a' w',Post g lk nt lc lo ρ0 h0 b w0 e T' h' n' .normal a' w' → Q .normal a' w') :
  ∀ (fs:List Nat) (cm ev:Nat) (T:Tmps) (h:Heap) (n:Nat),(∃ pre,fullL ops.toList 0 = pre ++ fs) → (stageD P H nt ops pk fs cm ev).1 ⟨lk,ih⟩ b T h n = .fin e T' h' n' → SInv pk fM ops T0 T ev →
   ∀ (fuel:Nat) (listed:Array Bool) (ρ:Rho) (a:Act) (w:World),unl ops listed ≤ fuel → MInv P g lk b lo nt pk ops T0 ρ0 h0 w0 T h n ev (maskL fs) cm listed ρ a w → wpAnyIn (FR ro) 0 P .any ops Q fuel listed a w
 | [],cm,ev,T,h,n,_,hk,hS => fun fuel listed ρ a w hu hM => by
  have hk:(revD P H nt ops pk (nat_lit 0) cm (fun _ => matD P H (nat_lit 18446744073709551615) cm ⟨fun _ _ T h n => .fin .normal T h n⟩ ops.toList (nat_lit 0)) ops.toList (nat_lit 0) ev).1 ⟨lk,ih⟩ b T h n = .fin e T' h' n':=hk
  obtain ⟨T1,ev1,hk,hr⟩:=rev_ok hR hA hC hnt ops.toList 0 ev T (fun i => by simp) hk
  have hM:MInv P g lk b lo nt pk ops T0 ρ0 h0 w0 T h n ev 0 cm listed ρ a w:=hM
  refine mid_ok hC hS hr (fun i oi _ _ => memN_zero i) (fun listed ρ a w hM hall => hQ a w ?_) (fun i o listed ρ a w fuel ho hk2 hnl _ _ hM => absurd (hM.lf i o ho hk2 (memN_zero i)) hnl) fuel listed ρ a w hu (hM.rev hC hnt hr)
  exact end_ok hA hC hnt hlk (TSet.rev hS hr) hL hM hall hk
 | f :: fs,cm,ev,T,h,n,hpre,hk,hS => fun fuel listed ρ a w hu hM => by
  have hk:(fT (Nat.lor (bit f) (maskL fs)) fun rem => revD P H nt ops pk rem cm
   (fun ev => matD P H (m64 pk f) cm (oD ops[f]? fun o => fullD P H nt ops o (fT (Nat.lor cm (Nat.lor (bit f) (m64 pk f))) fun cm => fT (Nat.lor ev (bit f)) fun ev => stageD P H nt ops pk fs cm ev)) ops.toList (nat_lit 0)) ops.toList (nat_lit 0) ev).1 ⟨lk,ih⟩ b T h n = .fin e T' h' n':=hk
  simp only [fT_eq] at hk
  obtain ⟨T1,ev1,hk,hr⟩:=rev_ok hR hA hC hnt ops.toList 0 ev T (fun i => by simp) hk
  obtain ⟨pre,hpre⟩:=hpre
  have hmem:∀ x,x ∈ f :: fs → ∃ o,ops[x]? = some o ∧ kindOf o.op = 2:=fun x hx => full_iff.1 (by rw [hpre];exact List.mem_append_right _ hx)
  have hsz:∀ x,x ∈ fs → x < ops.size:=fun x hx => by obtain ⟨o,ho,_⟩:=hmem x (by simp [hx]);exact lt_of_op ho
  have hch:chain pk (f :: fs) = true:=chain_drop (pre:=pre) (by rw [← hpre];exact hC.ch)
  obtain ⟨of,hof,hkf⟩:=hmem f (by simp)
  have hfM:memN f fM = true:=by rw [hC.fm];exact fullM_mem hof hkf
  have hfr:memN f (maskL (f :: fs)) = true:=maskL_mem.2 (by simp)
  have hS1:=hS.rev hr hfM hfr
  refine mid_ok hC hS hr (fun i oi hi hki => ?_) (fun listed ρ a w hM hall => absurd (hall f (lt_of_op hof)) (hM.lr f hfr)) (fun i o listed ρ a w fuel ho hk2 hnl hed hu hM => ?_) fuel listed ρ a w hu (hM.rev hC hnt hr)
  ·cases hh:memN i (Nat.lor (bit f) (maskL fs)) with
   | false => rfl
   | true =>
    obtain ⟨o,ho,hko⟩:=hmem i (maskL_mem.1 hh)
    rw [hi] at ho
    cases ho
    exact absurd hko hki
  ·-- it is the next one
   have hif:i = f:=by
    have hir:memN i (maskL (f :: fs)) = true:=by
     cases hh:memN i (maskL (f :: fs)) with
     | true => rfl
     | false => exact absurd (hM.lf i o ho hk2 hh) hnl
    rcases List.mem_cons.1 (maskL_mem.1 hir) with c | c
    ·exact c
    ·exact absurd (chain_lst hC hM.cl hch hsz i c o ho hed) (hM.lr f hfr)
   subst hif
   have hif:i < listed.size:=by rw [hM.sz];exact lt_of_op ho
   have hanc:∀ x,memN x (m64 pk i) = true → Lst listed x:=fun x hx => anc_of_edges hC hM.cl ho hed hx
   obtain ⟨hc,hk,hm⟩:=mat_ok (mm:=m64 pk i) hA hC hM hlk (fun x ox _ _ hx => hanc x hx) (fun x ox hx hkx hl => tr_alloc hC hS1.ts hM hx hkx hl) ops.toList 0 h (fun i => by simp) (Mat.start hM) hk
   rw [ho] at hk
   have hk:(fullR P H ops o).1 ⟨lk,ih⟩ b T1 hc n (fun v h n => (dstF nt o.dst).1 v T1 fun T => (stageD P H nt ops pk fs (Nat.lor cm (Nat.lor (bit i) (m64 pk i))) (Nat.lor ev1 (bit i))).1 ⟨lk,ih⟩ b T h n) = .fin e T' h' n':=hk
   have hTR:TR ρ T1 a (wtOf ops o):=tr_done hC hS1.ts hM ho fun t ht i' oi' hi' hd' => by
    have hwr:=hC.wr i o ho t ht i' oi' hi' hd'
    unfold wrOK at hwr
    cases ha:memN i' (m64 pk i) with
    | true => exact .inl (hanc i' ha)
    | false =>
     rw [ha,nbF (show kindOf o.op ≠ 1 by rw [hk2];decide)] at hwr
     obtain ⟨q1,q2⟩:=bK_t hwr
     refine .inr ⟨fun hl => hnl (anc_listed hC hM.cl hi' hl q1),?_⟩
     cases hev:memN i' ev1 with
     | false => rfl
     | true =>
      by_cases hki:kindOf oi'.op = 2
      ·have:=land_self q2 (t:=i') (by rw [hC.fm];exact fullM_mem hi' hki)
       have:=anc_lt hC hi' this
       omega
      ·obtain ⟨f,f1,f2⟩:=hS1.ei i' oi' hi' hev hki
       have:=land_self q2 f1
       rw [f2] at this
       cases this
   have hdt:∀ t,o.dst = some t → t < maxTmps:=fun t ht => Nat.lt_of_lt_of_le (hC.dt i o t ho ht).1 hnt
   -- behind it
   have after:∀ v h3 n3 u ρ' w',((dstF nt o.dst).1 v T1 fun T => (stageD P H nt ops pk fs (Nat.lor cm (Nat.lor (bit i) (m64 pk i))) (Nat.lor ev1 (bit i))).1 ⟨lk,ih⟩ b T h3 n3) = .fin e T' h' n' →
     VR ρ' v u → Emb g lk ρ' h3 n3 w' → Stp lk ρ hc n w ρ' h3 n3 w' → wpAnyIn (FR ro) 0 P .any ops Q fuel (listed.setIfInBounds i true) (a.put o.dst u) w':=fun v h3 n3 u ρ' w' hk hv hE hSt => by
    obtain ⟨_,e1⟩:=dst_run (fin_ok hk)
    rw [e1] at hk
    have get:∀ t,t < maxTmps → (putD o.dst v T1).get t = if o.dst = some t then v else T1.get t:=fun t ht => putD_get hdt ht
    have hcm':∀ x,memN x (Nat.lor cm (Nat.lor (bit i) (m64 pk i))) = (memN x cm || (decide (x = i) || memN x (m64 pk i))):=fun x => by rw [memN_lor,memN_lor,memN_bit]
    have hev':∀ x,memN x (Nat.lor ev1 (bit i)) = (memN x ev1 || decide (x = i)):=fun x => by rw [memN_lor,memN_bit]
    have hcm0:∀ x,memN x (Nat.lor cm (Nat.lor (bit i) (m64 pk i))) = false → memN x cm = false ∧ x ≠ i ∧ memN x (m64 pk i) = false:=fun x hx => by
     rw [hcm'] at hx
     simpa using hx
    have back:∀ x pl,b + x < n → ρ' (b + x) = some pl → ρ (b + x) = some pl:=fun x pl hx hp => by
     cases hh:ρ (b + x) with
     | none => rw [hSt.nop _ hx hh] at hp;cases hp
     | some q => rw [hSt.ext _ _ hh] at hp;exact hp
    refine stage_ok hR hA hO hC hnt hlk hL hI hQ fs _ _ _ h3 n3 ⟨pre ++ [i],by rw [hpre];simp⟩ hk ⟨fun t ht hno => ?_,fun j oj hj hjev hkj => ?_⟩ fuel _ ρ' _ w' hu ?_
    ·have hne:o.dst ≠ some t:=fun c => by have:=hno i o ho c;rw [hev'] at this;simp at this
     rw [get t ht,if_neg hne]
     exact hS1.ts t ht fun x ox hx hdx => by have:=hno x ox hx hdx;rw [hev'] at this;simp at this;exact this.1
    ·refine hS1.ei j oj hj ?_ hkj
     rw [hev'] at hjev
     by_cases e:j = i
     ·subst e;rw [ho] at hj;cases hj;exact absurd hk2 hkj
     ·simpa [e] using hjev
    ·have hlk':∀ j (oj:Oper),ops[j]? = some oj → kindOf oj.op = 1 → j ≠ i:=fun j oj hj hkj e => by subst e;rw [ho] at hj;cases hj;rw [hk2] at hkj;cases hkj
     refine ⟨by simpa using hM.sz,Cls_set hM.cl hif ho hed,fun x hx hl => ?_,fun x ox hx hkx hre => ?_,fun x hx hxs => ?_,fun x hxs hl => ?_,hE,hm.st.trans hSt,by rw [put_defers];exact (df_heap hM hm).step hm.em hSt,by rw [put_size];exact hM.az,
      fun j oj t hj hl ht => ?_,fun t htm hno => ?_,fun j oj hj hkj hnlj => ?_,fun j oj hj hkj => ?_,fun j oj hj hkj hl hcj => ?_,fun j j' oj oj' pl pl' hj hj' hkj hkj' hcj hcj' hne hp hp' => ?_,fun j oj pl hj hkj hcj hp d hd => ?_⟩
     ·have hx:=maskL_mem.1 hx
      rcases (Lst_set hif).1 hl with c | hl
      ·have:=chain_ne hC hch hsz x hx
       omega
      ·exact hM.lr x ((maskL_mem (fs:=i :: fs)).2 (List.mem_cons_of_mem _ hx)) hl
     ·by_cases e:x = i
      ·exact (Lst_set hif).2 (.inl e)
      ·refine (Lst_set hif).2 (.inr (hM.lf x ox hx hkx ?_))
       cases hh:memN x (Nat.lor (bit i) (maskL fs)) with
       | false => rfl
       | true =>
        rcases List.mem_cons.1 (maskL_mem.1 hh) with c | c
        ·exact absurd c e
        ·rw [maskL_mem.2 c] at hre;cases hre
     ·rw [hcm'] at hx
      simp only [Bool.or_eq_true,decide_eq_true_eq] at hx
      rcases hx with c | c | c
      ·exact (Lst_set hif).2 (.inr (hM.lm x c hxs))
      ·exact (Lst_set hif).2 (.inl c)
      ·exact (Lst_set hif).2 (.inr (hanc x c))
     ·rw [hev']
      rcases (Lst_set hif).1 hl with c | hl
      ·simp [c]
      ·rw [hM.le x hxs hl];rfl
     ·have htm:t < maxTmps:=Nat.lt_of_lt_of_le (hC.dt j oj t hj ht).1 hnt
      rw [get t htm]
      by_cases e:j = i
      ·subst e
       rw [ho] at hj
       cases hj
       rw [if_pos ht,ht,put_at (by rw [hM.az];exact (hC.dt j o t ho ht).1)]
       exact hv
      ·have hne:o.dst ≠ some t:=fun c => e (hC.dd j i oj o t hj ho ht c)
       rw [if_neg hne,put_ne hne]
       rcases (Lst_set hif).1 hl with c | hl
       ·exact absurd c e
       ·exact (hM.v1 j oj t hj hl ht).mono hSt.ext
     ·have hne:o.dst ≠ some t:=fun c => hno i o ho c ((Lst_set hif).2 (.inl rfl))
      rw [put_ne hne]
      exact (hM.v2 t htm fun j oj hj ht hl => hno j oj hj ht ((Lst_set hif).2 (.inr hl))).mono hSt.ext
     ·exact hSt.nop _ (hM.ad j oj hj hkj).1 (hM.an j oj hj hkj fun c => hnlj ((Lst_set hif).2 (.inr c)))
     ·obtain ⟨d1,d2⟩:=hM.ad j oj hj hkj
      refine ⟨Nat.lt_of_lt_of_le d1 hSt.nn,fun hcj => ?_⟩
      obtain ⟨c1,_,c3⟩:=hcm0 j hcj
      refine hSt.ded _ d1 ?_
      rcases hm.nw (b + j) d1 with x | ⟨x,ox,x1,_,_,_,x5,_⟩
      ·rw [x];exact d2 c1
      ·have:x = j:=by omega
       subst this
       rw [c3] at x5
       cases x5
     ·obtain ⟨c1,_,c3⟩:=hcm0 j hcj
      rcases (Lst_set hif).1 hl with c | hl
      ·exact absurd c (hlk' j oj hj hkj)
      ·obtain ⟨w1,u1,ob,q1,q2,q3,q4,q5⟩:=hM.ai j oj hj hkj hl c1
       have hB:w1.heap.size < w.heap.size:=(Array.getElem?_eq_some_iff.1 q3).1
       obtain ⟨s1,s2⟩:=apart_step hm.em hSt hB fun c pl h1 h2 h3 => by
        rcases hm.nw c h1 with x | ⟨x,ox,x1,_,x3,x4,x5,x6⟩
        ·rw [x] at h2
         exact q5 c pl h1 h2 h3
        ·rw [x1] at h3
         exact hM.ax x j ox oj pl _ x3 hj x4 hkj x6 c1 (fun e => by subst e;rw [c3] at x5;cases x5) h3 q2
       exact ⟨w1,u1,ob,by rw [exec_put hC hM.cl ho hnl hj hkj hl];exact q1,hSt.ext _ _ q2,s1.trans q3,q4,s2⟩
     ·exact hM.ax j j' oj oj' pl pl' hj hj' hkj hkj' (hcm0 j hcj).1 (hcm0 j' hcj').1 hne (back j pl (hM.ad j oj hj hkj).1 hp) (back j' pl' (hM.ad j' oj' hj' hkj').1 hp')
     ·rw [put_defers] at hd
      exact hM.ak j oj pl hj hkj (hcm0 j hcj).1 (back j pl (hM.ad j oj hj hkj).1 hp) d hd
   unfold wpOpIn
   simp only [ho]
   have hk:(guD ops o).1 ⟨T1,PUnit.unit⟩ ((opF [] P H o.op).1 ⟨lk,ih⟩ ⟨T1,PUnit.unit⟩ hc n (fun v h n => (dstF nt o.dst).1 v T1 fun T => (stageD P H nt ops pk fs (Nat.lor cm (Nat.lor (bit i) (m64 pk i))) (Nat.lor ev1 (bit i))).1 ⟨lk,ih⟩ b T h n))
    ((dstF nt o.dst).1 (mTup []) T1 fun T => (stageD P H nt ops pk fs (Nat.lor cm (Nat.lor (bit i) (m64 pk i))) (Nat.lor ev1 (bit i))).1 ⟨lk,ih⟩ b T hc n) = .fin e T' h' n':=hk
   obtain ⟨c,e1,hwant⟩:=guD_ok (fin_ok hk)
   rw [e1] at hk
   have hwant:=hwant ρ a hTR
   cases c with
   | true =>
    rw [if_pos rfl] at hk
    rw [if_pos hwant]
    have hnd:∀ c,o.op ≠ .defer c:=fun c hc => by rw [hc] at hk;cases hk
    obtain ⟨v,h3,n3,e2,hstep⟩:=hO [] o ⟨lk,ih⟩ ⟨T1,PUnit.unit⟩ hc n _ hI (fin_ok hk)
    rw [e2] at hk
    exact wp_in hnd (hstep ρ a w hm.em (opds_tr hm.em.gl (hC.gl i o ho) hTR) _ Q fun u ρ' w' hv hE hSt => after v h3 n3 u ρ' w' hk hv hE hSt)
   | false =>
    rw [if_neg Bool.false_ne_true] at hk
    rw [if_neg (by rw [hwant];exact Bool.false_ne_true)]
    exact ⟨fun _ _ => trivial,after (mTup []) hc n undef ρ w hk undef_rel hm.em (Stp.refl _ _ _ _ _)⟩
end EV
end
noncomputable section
namespace EV
open Go
variable {P:Program} {g:Nat} {H:Nat → HE} {nt lc:Nat} {ops:Array Oper}
theorem Emb.grow {lk:Nat} {ρ:Rho} {h:Heap} {n:Nat} {w:World} (hE:Emb g lk ρ h n w) {m:Nat} (hm:n ≤ m) (hb:m ≤ maxBlocks):Emb g lk ρ h m w:=by
 have low:∀ b,b < m → (hget h b).1 ≠ 0 → b < n:=fun b hbm ht => by
  rcases Nat.lt_or_ge b n with c | c
  ·exact c
  ·exact absurd (hE.up b c (by omega)) ht
 exact ⟨hb,hE.gk,by have:=hE.kn;omega,fun b pl h1 => by have:=hE.bd b pl h1;exact ⟨by omega,this.2⟩,fun b hbm ht => hE.ob b (low b hbm ht) ht,
  fun b b' pl pl' h1 h2 h3 h4 h5 h6 h7 h8 h9 => hE.inj b b' pl pl' h1 (low b h2 h5) (low b' h3 h6) h4 h5 h6 h7 h8 h9,hE.gl,fun b hb2 hbm => hE.up b (by omega) hbm,
  fun b b' pl pl' h1 h2 h3 h4 h5 h6 h7 h8 => hE.shr b b' pl pl' h1 h2 (low b' h3 (by rw [h5];decide)) h4 h5 h6 h7 h8⟩
theorem Stp.grow {lk:Nat} {ρ ρ':Rho} {h h':Heap} {n n':Nat} {w w':World} (s:Stp lk ρ h n w ρ' h' n' w') (hup:∀ b,n' ≤ b → b < maxBlocks → (hget h' b).1 = 0) {m:Nat} (hm:n' ≤ m) (hb:m ≤ maxBlocks):Stp lk ρ h n w ρ' h' m w':=
 ⟨s.ext,Nat.le_trans s.nn hm,s.os,s.tape,s.output,s.sz,s.unt,fun b pl h1 h2 h3 h4 h5 => by
  rcases Nat.lt_or_ge b n' with c | c
  ·exact s.own b pl h1 c h3 h4 h5
  ·exact absurd (hup b c (by omega)) h3,s.lck,s.ded,s.nop⟩
theorem Lst_none {j k:Nat}:¬ Lst (Array.replicate k false) j:=by
 unfold Lst
 by_cases h:j < k
 ·simp [h]
 ·simp [h]
theorem hasA_mem:∀ {l:List Oper} {k:Nat} {o:Oper},l[k]? = some o → kindOf o.op = 1 → hasA l = true
 | [],k,o,h,_ => by simp at h
 | x :: l,k,o,h,hk => by
  change bK (Nat.beq (kindOf x.op) 1) true (hasA l) = true
  cases k with
  | zero => simp at h;subst h;rw [nbT hk];rfl
  | succ k =>
   have:=hasA_mem (l:=l) (k:=k) (by simpa using h) hk
   rw [this]
   cases Nat.beq (kindOf x.op) 1 <;> rfl
theorem draw_ok (hMix:P.follows .mixedOrders = true) (hR:ReadsOK P g H) (hA:AllocsOK P H) (hO:OpsOK P g H) (hg:g = P.globals.size) {id:Nat} {cx:Cx} {T:Tmps} {h:Heap} {n:Nat} {e:Ex} {T':Tmps} {h':Heap} {n':Nat} (hI:IHok P g cx.2)
  (hk:(drawF P H nt lc ops).1 cx T h n = .fin e T' h' n') (ro:Option Nat) {ρ:Rho} {a:Act} {w:World} {lo:Nat} (hE:Emb g cx.1 ρ h n w) (hT:ActL ρ nt lc T a) (hD:Df lo ρ h n w a.defers) :
  (Code.region id ops true).wpIn (FR ro) 0 P (Post g cx.1 nt lc lo ρ h n w e T' h' n') a w:=by
 subst hg
 obtain ⟨lk,ih⟩:=cx
 have hk:(fT (pkF ops.toList (nat_lit 0) (nat_lit 0)) fun pk => fT (fullM ops.toList (nat_lit 0)) fun fM => bK (Nat.ble ops.size (nat_lit 64)) (bK (allI (chkD P.globals.size nt lc pk fM ops) ops.toList (nat_lit 0)) (bK (chain pk (fullL ops.toList (nat_lit 0)))
  (fT (bK (hasA ops.toList) ops.size (nat_lit 0)) fun R =>
   (⟨fun cx T h n => fT (Nat.add n R) fun m => bA (Nat.ble m (nat_lit 262144)) ((stageD P H nt ops pk (fullL ops.toList (nat_lit 0)) (nat_lit 0) (nat_lit 0)).1 cx n T h m) (.fail 101)⟩:CF)) badC) badC) badC).1 ⟨lk,ih⟩ T h n = .fin e T' h' n':=hk
 simp only [fT_eq] at hk
 generalize hpk:pkF ops.toList 0 0 = pk at hk
 cases h1:Nat.ble ops.size 64 with
 | false => rw [h1] at hk;cases hk
 | true =>
 rw [h1] at hk
 cases h2:allI (chkD P.globals.size nt lc pk (fullM ops.toList 0) ops) ops.toList 0 with
 | false => rw [h2] at hk;cases hk
 | true =>
 rw [h2] at hk
 cases h3:chain pk (fullL ops.toList 0) with
 | false => rw [h3] at hk;cases hk
 | true =>
 rw [h3] at hk
 have hC:=chk_of h1 h2 h3
 have hk:bA (Nat.ble (n + bK (hasA ops.toList) ops.size 0) 262144) ((stageD P H nt ops pk (fullL ops.toList 0) 0 0).1 ⟨lk,ih⟩ n T h (n + bK (hasA ops.toList) ops.size 0)) (.fail 101) = .fin e T' h' n':=hk
 obtain ⟨h4,e1⟩:=bA_ok (fin_ok hk)
 rw [e1] at hk
 have h4:n + bK (hasA ops.toList) ops.size 0 ≤ maxBlocks:=Nat.le_of_ble_eq_true h4
 have hnm:n ≤ n + bK (hasA ops.toList) ops.size 0:=Nat.le_add_right _ _
 have E2:=hE.drew.grow hnm h4
 have S2:Stp lk ρ h n w ρ h (n + bK (hasA ops.toList) ops.size 0) w.drew:=Stp.drew.grow hE.up hnm h4
 have hlt:∀ j (o:Oper),ops[j]? = some o → kindOf o.op = 1 → n + j < n + bK (hasA ops.toList) ops.size 0:=fun j o hj hkj => by
  rw [hasA_mem (ops_at hj) hkj]
  have:=lt_of_op hj
  change n + j < n + ops.size
  omega
 refine wpIn_region_any hMix ?_
 refine stage_ok (lo:=lo) (T0:=T) (ρ0:=ρ) (h0:=h) (w0:=w) (b:=n) hR hA hO hC hT.le hE.kn hT.lo hI (fun a' w' p => p) (fullL ops.toList 0) 0 0 T h _ ⟨[],rfl⟩ hk ⟨fun t _ _ => rfl,fun j o _ hj => (by rw [memN_zero] at hj;cases hj)⟩ ops.size _ ρ a w.drew ?_
  ⟨by simp,fun j o hj hl => absurd hl Lst_none,fun f _ => Lst_none,fun f o hf hkf hre => ?_,fun j hj => (by rw [memN_zero] at hj;cases hj),fun j _ hl => absurd hl Lst_none,E2,S2,hD.step hE S2,hT.sz0,fun j o t _ hl => absurd hl Lst_none,
   fun t ht _ => hT.tm t ht,fun j o hj hkj _ => ?_,fun j o hj hkj => ⟨hlt j o hj hkj,fun _ => hE.up _ (by omega) (Nat.lt_of_lt_of_le (hlt j o hj hkj) h4)⟩,fun j o _ _ hl => absurd hl Lst_none,fun j j' o o' pl pl' hj _ hkj _ _ _ _ hp => ?_,fun j o pl hj hkj _ hp => ?_⟩
 ·unfold unl
  exact Nat.le_trans List.countP_le_length (by simp)
 ·rw [maskL_mem.2 (full_iff.2 ⟨o,hf,hkf⟩)] at hre
  cases hre
 ·cases hh:ρ (n + j) with
  | none => rfl
  | some pl => have:=(hE.bd _ pl hh).1;omega
 ·have:=(hE.bd _ pl hp).1
  omega
 ·have:=(hE.bd _ pl hp).1
  omega
end EV
end
noncomputable section
namespace EV
open Go
variable {P:Program} {g:Nat}
def CodeOK (P:Program) (g nt lc:Nat) (c:Code) (f:CF):Prop:=
 ∀ (cx:Cx) (T:Tmps) (h:Heap) (n:Nat) (e:Ex) (T':Tmps) (h':Heap) (n':Nat),IHok P g cx.2 → f.1 cx T h n = .fin e T' h' n' → ∀ ro,(ro = none ∨ flatC c = true) →
  ∀ ρ a w lo,Emb g cx.1 ρ h n w → ActL ρ nt lc T a → Df lo ρ h n w a.defers → lo ≤ w.heap.size → c.wpIn (FR ro) 0 P (Post g cx.1 nt lc lo ρ h n w e T' h' n') a w ∧
  (∀ c',c = .loop c' → ∀ (b:Frame) (k:List Item) (cs:List Frame),b.roundOf = ro → ∃ e' a' w',Post g cx.1 nt lc lo ρ h n w e T' h' n' e' a' w' ∧ ArrivesIn (Machine.fenced P (FR ro)) P (lone (b.atR a (.inLoop c' :: k)) cs w) b k cs e' a' w')
theorem CodeOK.of {nt lc:Nat} {c:Code} {f:CF} (hc:∀ c',c ≠ .loop c')
  (h:∀ (cx:Cx) (T:Tmps) (h:Heap) (n:Nat) (e:Ex) (T':Tmps) (h':Heap) (n':Nat),IHok P g cx.2 → f.1 cx T h n = .fin e T' h' n' → ∀ ro,(ro = none ∨ flatC c = true) →
   ∀ ρ a w lo,Emb g cx.1 ρ h n w → ActL ρ nt lc T a → Df lo ρ h n w a.defers → lo ≤ w.heap.size → c.wpIn (FR ro) 0 P (Post g cx.1 nt lc lo ρ h n w e T' h' n') a w):CodeOK P g nt lc c f:=
 fun cx T hh n e T' h' n' hI hk ro hr ρ a w lo hE hA hD hlo => ⟨h cx T hh n e T' h' n' hI hk ro hr ρ a w lo hE hA hD hlo,fun c' e => absurd e (hc c')⟩
theorem badC_ok {nt lc:Nat} {c:Code} (hc:∀ c',c ≠ .loop c'):CodeOK P g nt lc c badC:=.of hc fun _ _ _ _ _ _ _ _ _ hk => by cases hk
theorem bK_and {a b:Bool} (h:bK a b false = true):a = true ∧ b = true:=by cases a <;> cases b <;> first | exact ⟨rfl,rfl⟩ | cases h
theorem exR_normal {e':Exit} (h:exR .normal e'):e' = .normal:=by cases e' <;> first | rfl | exact h.elim
theorem exR_exit {i:Nat} {e':Exit} (h:exR (.exit i) e'):e' = .exit i:=by cases e' <;> first | exact (congrArg Exit.exit h).symm | exact h.elim
theorem exR_ret {e':Exit} (h:exR .ret e'):e' = .ret:=by cases e' <;> first | rfl | exact h.elim
theorem Post.refl {lk nt lc lo:Nat} {ρ:Rho} {h:Heap} {n:Nat} {w:World} {T:Tmps} {a:Act} {e:Ex} {e':Exit} (he:exR e e') (hE:Emb g lk ρ h n w) (hA:ActL ρ nt lc T a) (hD:Df lo ρ h n w a.defers):Post g lk nt lc lo ρ h n w e T h n e' a w:=
 ⟨he,ρ,hA,hD,hE,Stp.refl _ _ _ _ _⟩
theorem seqK_fin {x:Ans} {k:Tmps → Heap → Nat → Ans} {e:Ex} {T':Tmps} {h':Heap} {n':Nat} (hk:seqK x k = .fin e T' h' n') :
  (∃ T1 h1 n1,x = .fin .normal T1 h1 n1 ∧ k T1 h1 n1 = .fin e T' h' n') ∨ (x = .fin e T' h' n' ∧ e ≠ .normal):=by
 cases x with
 | fail w => cases hk
 | fin e1 T1 h1 n1 =>
  cases e1 with
  | normal => exact .inl ⟨T1,h1,n1,rfl,hk⟩
  | exit i =>
   have hk:Ans.fin (.exit i) T1 h1 n1 = .fin e T' h' n':=hk
   exact .inr ⟨hk,by cases hk;exact fun c => by cases c⟩
  | ret =>
   have hk:Ans.fin .ret T1 h1 n1 = .fin e T' h' n':=hk
   exact .inr ⟨hk,by cases hk;exact fun c => by cases c⟩
theorem Post.not_normal {lk nt lc lo:Nat} {ρ:Rho} {h:Heap} {n:Nat} {w:World} {e:Ex} {T':Tmps} {h':Heap} {n':Nat} {e':Exit} {a':Act} {w':World} (p:Post g lk nt lc lo ρ h n w e T' h' n' e' a' w')
  (he:e ≠ .normal):e' ≠ .normal:=fun c => by
 subst c
 cases e <;> first | exact he rfl | exact p.1.elim
theorem then_of {next:Act → World → Prop} {Q:Exit → Act → World → Prop} {e:Exit} {a:Act} {w:World} (he:e ≠ .normal) (h:Q e a w):Exit.then next Q e a w:=by
 cases e <;> first | exact absurd rfl he | exact h
theorem seq_code {nt lc:Nat} {x y:Code} {fx fy:CF} (hx:CodeOK P g nt lc x fx) (hy:CodeOK P g nt lc y fy):CodeOK P g nt lc (.seq x y) ⟨fun cx T h n => seqK (fx.1 cx T h n) (fy.1 cx)⟩:=
 .of (fun _ c => by cases c) fun cx T h n e T' h' n' hI hk ro hr ρ a w lo hE hA hD hlo => by
  have hrx:ro = none ∨ flatC x = true:=hr.imp id fun q => (bK_and q).1
  have hry:ro = none ∨ flatC y = true:=hr.imp id fun q => (bK_and q).2
  rcases seqK_fin hk with ⟨T1,h1,n1,e1,e2⟩ | ⟨e1,e2⟩
  ·refine wpIn_seq (wpIn_mono (hx cx T h n _ _ _ _ hI e1 ro hrx ρ a w lo hE hA hD hlo).1 fun e' a1 w1 p => ?_)
   obtain ⟨p1,ρ1,p2,pd,p3,p4⟩:=p
   rw [exR_normal p1]
   exact wpIn_mono (hy cx T1 h1 n1 _ _ _ _ hI e2 ro hry ρ1 a1 w1 lo p3 p2 pd (Nat.le_trans hlo p4.sz)).1 fun _ _ _ q => Post.step p4 q
  ·exact wpIn_seq (wpIn_mono (hx cx T h n _ _ _ _ hI e1 ro hrx ρ a w lo hE hA hD hlo).1 fun e' a1 w1 p => then_of (p.not_normal e2) p)
theorem cond_code {nt lc:Nat} {c:Operand} {x y:Code} {fx fy:CF} (hc:glob g c = true) (hx:CodeOK P g nt lc x fx) (hy:CodeOK P g nt lc y fy) :
  CodeOK P g nt lc (.cond c x y) ⟨fun cx T h n => asB ((opd [] c).1 ⟨T,PUnit.unit⟩) (fx.1 cx T h n) (fy.1 cx T h n)⟩:=
 .of (fun _ c => by cases c) fun cx T h n e T' h' n' hI hk ro hr ρ a w lo hE hA hD hlo => by
  have hrx:ro = none ∨ flatC x = true:=hr.imp id fun q => (bK_and q).1
  have hry:ro = none ∨ flatC y = true:=hr.imp id fun q => (bK_and q).2
  have hk:asB ((opd [] c).1 ⟨T,PUnit.unit⟩) (fx.1 cx T h n) (fy.1 cx T h n) = .fin e T' h' n':=hk
  obtain ⟨h1,e1⟩:=asB_ok (v:=(opd [] c).1 ⟨T,PUnit.unit⟩) (t:=fx.1 cx T h n) (e:=fy.1 cx T h n) (fin_ok hk)
  rw [e1] at hk
  have hv:=VR_2 (opd_rel hE hA EnvR.nil hc) h1
  cases hb:Nat.beq ((opd [] c).1 ⟨T,PUnit.unit⟩).2 1 with
  | true =>
   rw [hb] at hk hv
   exact wpIn_cond hv (hx cx T h n _ _ _ _ hI hk ro hrx ρ a w lo hE hA hD hlo).1
  | false =>
   rw [hb] at hk hv
   exact wpIn_cond hv (hy cx T h n _ _ _ _ hI hk ro hry ρ a w lo hE hA hD hlo).1
theorem block_code {nt lc:Nat} {i:Nat} {x:Code} {fx:CF} (hx:CodeOK P g nt lc x fx):CodeOK P g nt lc (.block i x) ⟨fun cx T h n => blockK (fx.1 cx T h n) i⟩:=
 .of (fun _ c => by cases c) fun cx T h n e T' h' n' hI hk ro hr ρ a w lo hE hA hD hlo => by
  have hk:blockK (fx.1 cx T h n) i = .fin e T' h' n':=hk
  cases hx1:fx.1 cx T h n with
  | fail w => rw [hx1] at hk;cases hk
  | fin e1 T1 h1 n1 =>
   rw [hx1] at hk
   refine wpIn_block (wpIn_mono (hx cx T h n _ _ _ _ hI hx1 ro hr ρ a w lo hE hA hD hlo).1 fun e' a1 w1 p => ?_)
   cases e1 with
   | normal =>
    have hk:Ans.fin .normal T1 h1 n1 = .fin e T' h' n':=hk
    cases hk
    have he:=exR_normal p.1
    subst he
    exact p
   | ret =>
    have hk:Ans.fin .ret T1 h1 n1 = .fin e T' h' n':=hk
    cases hk
    have he:=exR_ret p.1
    subst he
    exact p
   | exit j =>
    have hk:bA (Nat.beq j i) (.fin .normal T1 h1 n1) (.fin (.exit j) T1 h1 n1) = .fin e T' h' n':=hk
    have he:=exR_exit p.1
    subst he
    by_cases hj:j = i
    ·rw [nbT hj,bA_true] at hk
     cases hk
     simp only [Exit.inBlock,hj,if_true]
     exact ⟨trivial,p.2⟩
    ·rw [nbF hj,bA_false] at hk
     cases hk
     simp only [Exit.inBlock,hj,if_false]
     exact p
theorem loop_code {nt lc:Nat} {x:Code} {fx:CF} (hx:CodeOK P g nt lc x fx):CodeOK P g nt lc (.loop x) ⟨fun cx T h n => seqK (fx.1 cx T h n) (cx.2 nt lc (.loop x) cx.1)⟩:=
 fun cx T h n e T' h' n' hI hk ro hr ρ a w lo hE hA hD hlo => by
  have hrx:ro = none ∨ flatC x = true:=hr
  have core:∀ (b:Frame) (k:List Item) (cs:List Frame),b.roundOf = ro → ∃ e' a' w',Post g cx.1 nt lc lo ρ h n w e T' h' n' e' a' w' ∧ ArrivesIn (Machine.fenced P (FR ro)) P (lone (b.atR a (.code x :: .inLoop x :: k)) cs w) b k cs e' a' w':=fun b k cs hro => by
   rcases seqK_fin hk with ⟨T1,h1,n1,e1,e2⟩ | ⟨e1,e2⟩
   ·obtain ⟨e',a1,w1,p,arr⟩:=(hx cx T h n _ _ _ _ hI e1 ro hrx ρ a w lo hE hA hD hlo).1 b (.inLoop x :: k) cs hro trivial (FR_room _ _)
    obtain ⟨p1,ρ1,p2,pd,p3,p4⟩:=p
    rw [exR_normal p1] at arr
    obtain ⟨e'',a2,w2,q,arr2⟩:=(hI nt lc (.loop x) cx.1 T1 h1 n1 _ _ _ _ e2 ro hr ρ1 a1 w1 lo p3 p2 pd (Nat.le_trans hlo p4.sz)).2 x rfl b k cs hro
    exact ⟨e'',a2,w2,Post.step p4 q,.of_steps arr arr2⟩
   ·obtain ⟨e',a1,w1,p,arr⟩:=(hx cx T h n _ _ _ _ hI e1 ro hrx ρ a w lo hE hA hD hlo).1 b (.inLoop x :: k) cs hro trivial (FR_room _ _)
    exact ⟨e',a1,w1,p,.pass (x:=.inLoop x) rfl (fun _ _ => .inl (p.not_normal e2)) arr⟩
  refine ⟨fun b k cs hro _ _ => ?_,fun c' hc b k cs hro => ?_⟩
  ·obtain ⟨e',a',w',p,arr⟩:=core b k cs hro
   exact ⟨e',a',w',p,.of_steps (.one (FR_fenced _ _) stepR_loop) arr⟩
  ·cases hc
   obtain ⟨e',a',w',p,arr⟩:=core b k cs hro
   exact ⟨e',a',w',p,.of_steps (.one (FR_fenced _ _) stepR_inLoop) arr⟩
def RangeOK (P:Program) (bk:Nat → Option (P2 Nat Bool)):Prop:=
 ∀ (nt lc:Nat) (f:Operand) (ps:Array Tmp) (x y:Code) (fx fy:CF),flatC x = true → flatC y = true → CodeOK P P.globals.size nt lc x fx → CodeOK P P.globals.size nt lc y fy → glob P.globals.size f = true → memN (ps.getD 0 0) lc = false → memN (ps.getD 1 0) lc = false →
  CodeOK P P.globals.size nt lc (.rangeFunc f ps x y) ⟨fun cx T h n => isT (nat_lit 10) ((opd [] f).1 ⟨T,PUnit.unit⟩) (bA (Nat.beq ps.size (nat_lit 2)) (bA (Nat.blt (ps.getD 0 0) nt) (bA (Nat.blt (ps.getD 1 0) nt)
   (oF (bk ((opd [] f).1 ⟨T,PUnit.unit⟩).2) fun q => rangeB fx fy (ps.getD 0 0) (ps.getD 1 0) q cx ((opd [] f).1 ⟨T,PUnit.unit⟩) T h n) (.fail 79)) (.fail 79)) (.fail 79))⟩
structure DrawOK (P:Program) (H:Nat → HE):Prop where
 mix:P.follows .mixedOrders = true
 rd:ReadsOK P P.globals.size H
 al:AllocsOK P H
theorem code_ok {H:Nat → HE} {bk:Nat → Option (P2 Nat Bool)} (hX:DrawOK P H) (hO:OpsOK P P.globals.size H) (hB:RangeOK P bk) (nt lc:Nat):∀ c:Code,CodeOK P P.globals.size nt lc c (codeF P H bk nt lc c)
 | .skip => .of (fun _ c => by cases c) fun cx T h n e T' h' n' hI hk ro hr ρ a w lo hE hA hD hlo => by
  have hk:Ans.fin .normal T h n = .fin e T' h' n':=hk
  cases hk
  exact wpIn_skip (Post.refl trivial hE hA hD)
 | .region i ops dr => by
  cases dr with
  | true =>
   refine .of (fun _ c => by cases c) fun cx T h n e T' h' n' hI hk ro hr ρ a w lo hE hA hD hlo => ?_
   exact draw_ok hX.mix hX.rd hX.al hO rfl hI hk ro hE hA hD
  | false =>
   refine .of (fun _ c => by cases c) fun cx T h n e T' h' n' hI hk ro hr ρ a w lo hE hA hD hlo => ?_
   have hk:(opsF P H nt lc ops ops.toList []).1 cx T PUnit.unit h n = .fin e T' h' n':=hk
   exact wpIn_region_list (ops_ok hO nt lc ops ops.toList [] cx T PUnit.unit h n e T' h' n' hI hk ro ρ a w lo hE hA hD EnvR.nil _ fun _ _ _ p => p)
 | .seq x y => seq_code (code_ok hX hO hB nt lc x) (code_ok hX hO hB nt lc y)
 | .cond c x y => by
  have hx:=code_ok hX hO hB nt lc x
  have hy:=code_ok hX hO hB nt lc y
  change CodeOK P P.globals.size nt lc (.cond c x y) (bK (glob P.globals.size c) ⟨fun cx T h n => asB ((opd [] c).1 ⟨T,PUnit.unit⟩) ((codeF P H bk nt lc x).1 cx T h n) ((codeF P H bk nt lc y).1 cx T h n)⟩ badC)
  cases hg:glob P.globals.size c with
  | true => exact cond_code hg hx hy
  | false => exact badC_ok fun _ c => by cases c
 | .block i x => block_code (code_ok hX hO hB nt lc x)
 | .loop x => loop_code (code_ok hX hO hB nt lc x)
 | .rangeFunc f ps x y => by
  have hx:=code_ok hX hO hB nt lc x
  have hy:=code_ok hX hO hB nt lc y
  change CodeOK P P.globals.size nt lc (.rangeFunc f ps x y) (bK (flatC x) (bK (flatC y) (bK (memN (ps.getD 0 0) lc) badC (bK (memN (ps.getD 1 0) lc) badC (bK (glob P.globals.size f) ⟨fun cx T h n => isT (nat_lit 10) ((opd [] f).1 ⟨T,PUnit.unit⟩) (bA (Nat.beq ps.size (nat_lit 2)) (bA (Nat.blt (ps.getD 0 0) nt) (bA (Nat.blt (ps.getD 1 0) nt)
   (oF (bk ((opd [] f).1 ⟨T,PUnit.unit⟩).2) fun q => rangeB (codeF P H bk nt lc x) (codeF P H bk nt lc y) (ps.getD 0 0) (ps.getD 1 0) q cx ((opd [] f).1 ⟨T,PUnit.unit⟩) T h n) (.fail 79)) (.fail 79)) (.fail 79))⟩ badC))) badC) badC)
  have bad:CodeOK P P.globals.size nt lc (.rangeFunc f ps x y) badC:=badC_ok fun _ c => by cases c
  cases f0:flatC x with
  | false => exact bad
  | true =>
  cases f1:flatC y with
  | false => exact bad
  | true =>
  cases h0:memN (ps.getD 0 0) lc with
  | true => exact bad
  | false =>
   cases h1:memN (ps.getD 1 0) lc with
   | true => exact bad
   | false =>
    cases hg:glob P.globals.size f with
    | true => exact hB nt lc f ps x y _ _ f0 f1 hx hy hg h0 h1
    | false => exact bad
 | .exit i => .of (fun _ c => by cases c) fun cx T h n e T' h' n' hI hk ro hr ρ a w lo hE hA hD hlo => by
  have hk:Ans.fin (.exit i) T h n = .fin e T' h' n':=hk
  cases hk
  exact wpIn_exit (Post.refl rfl hE hA hD)
 | .ret => .of (fun _ c => by cases c) fun cx T h n e T' h' n' hI hk ro hr ρ a w lo hE hA hD hlo => by
  have hk:Ans.fin .ret T h n = .fin e T' h' n':=hk
  cases hk
  exact wpIn_ret (Post.refl trivial hE hA hD)
 | .scope x => badC_ok fun _ c => by cases c
 | .label l => badC_ok fun _ c => by cases c
 | .goto l => badC_ok fun _ c => by cases c
 | .refuse s => badC_ok fun _ c => by cases c
theorem ev_ok {H:Nat → HE} {bk:Nat → Option (P2 Nat Bool)} (hX:DrawOK P H) (hO:OpsOK P P.globals.size H) (hB:RangeOK P bk):∀ f:Nat,IHok P P.globals.size (ev P bk H f)
 | 0 => fun nt lc c lk T h n e T' h' n' hk => by cases hk
 | f + 1 => fun nt lc c lk T h n e T' h' n' hk => code_ok hX hO hB nt lc c ⟨lk,ev P bk H f⟩ T h n e T' h' n' (ev_ok hX hO hB f) hk
end EV
end
noncomputable section
namespace EV
open Go
variable {P:Program} {g:Nat}
def resM (tmps:Array Value):ResultVar → Sem Value
 | .tmp t => pure (tmps.getD t undef)
 | .cell a t => do loadVar t (← asAddr (tmps.getD a undef))
theorem results_eq (fn:Func) (tmps:Array Value):results fn tmps = (do let vs ← fn.results.mapM (resM tmps);pure (if h:vs.size = 1 then vs[0] else .tuple vs)):=by
 unfold results
 congr 1
theorem tmp_rel {ρ:Rho} {nt lc:Nat} {T:Tmps} {a:Act} (hA:ActL ρ nt lc T a) (t:Tmp):VR ρ ((tmpG t).1 T) (a.tmps.getD t undef):=by
 by_cases ht:t < maxTmps
 ·rw [tmpG_get ht];exact hA.tm t ht
 ·rw [tmpG_out ht];exact VR_undef
theorem res_ok:∀ {l:List ResultVar} {T:Tmps} {h:Heap} {k:List AV → Ans},(resK P l T h k).ok → ∃ vs,resK P l T h k = k vs ∧
  ∀ (ρ:Rho) (lk nt lc n:Nat) (a:Act) (w:World),Emb g lk ρ h n w → ActL ρ nt lc T a → ∃ us,(l.mapM (resM a.tmps)).run P w = .ok us w ∧ VRs ρ vs us
 | [],T,h,k,_ => ⟨[],rfl,fun ρ lk nt lc n a w _ _ => ⟨[],by simp,trivial⟩⟩
 | .tmp t :: l,T,h,k,hk => by
  have hk:(resK P l T h fun r => k ((tmpG t).1 T :: r)).ok:=hk
  obtain ⟨vs,e,hvs⟩:=res_ok hk
  refine ⟨(tmpG t).1 T :: vs,e,fun ρ lk nt lc n a w hE hA => ?_⟩
  obtain ⟨us,h1,h2⟩:=hvs ρ lk nt lc n a w hE hA
  exact ⟨a.tmps.getD t undef :: us,by simp [List.mapM_cons,resM,h1],tmp_rel hA t,h2⟩
 | .cell ad t :: l,T,h,k,hk => by
  have hk:(oF (aggT P t) fun ag => oF (szOf P t) fun s => isT (nat_lit 3) ((tmpG ad).1 T) (rowOf h ((tmpG ad).1 T).2 fun r => bA ag (bA (Nat.ble (Nat.add ((tmpG ad).1 T).3 s) r.3) (getN s ((tmpG ad).1 T).3 r.4 fun c => resK P l T h fun r => k (mAgg c :: r)) (.fail 60))
     (bA (Nat.blt ((tmpG ad).1 T).3 r.3) (resK P l T h fun q => k ((cellF ((tmpG ad).1 T).3).1 r.4 :: q)) (.fail 60)))).ok:=hk
  change ∃ vs,(oF (aggT P t) fun ag => oF (szOf P t) fun s => isT (nat_lit 3) ((tmpG ad).1 T) (rowOf h ((tmpG ad).1 T).2 fun r => bA ag (bA (Nat.ble (Nat.add ((tmpG ad).1 T).3 s) r.3) (getN s ((tmpG ad).1 T).3 r.4 fun c => resK P l T h fun r => k (mAgg c :: r)) (.fail 60))
     (bA (Nat.blt ((tmpG ad).1 T).3 r.3) (resK P l T h fun q => k ((cellF ((tmpG ad).1 T).3).1 r.4 :: q)) (.fail 60)))) = k vs ∧ _
  obtain ⟨ag,ha,e⟩:=oF_ok hk
  rw [e] at hk ⊢
  obtain ⟨s,hs,e⟩:=oF_ok hk
  rw [e] at hk ⊢
  obtain ⟨ht,e⟩:=isT_ok hk
  rw [e] at hk ⊢
  obtain ⟨hr,e⟩:=rowOf_ok hk
  rw [e] at hk ⊢
  cases ag with
  | true =>
   rw [bA_true] at hk ⊢
   obtain ⟨hb,e⟩:=bA_ok hk
   rw [e,getN_eq] at hk ⊢
   obtain ⟨vs,e,hvs⟩:=res_ok hk
   refine ⟨_ :: vs,e,fun ρ lk nt lc n a w hE hA => ?_⟩
   obtain ⟨us,h1,h2⟩:=hvs ρ lk nt lc n a w hE hA
   obtain ⟨pl,hp,hu⟩:=VR_3 (tmp_rel hA ad) ht
   obtain ⟨_,_,_,hcell,_⟩:=row_of hE hp hr
   obtain ⟨cs,g1,g2,g3,g4⟩:=cells_list hcell s ((tmpG ad).1 T).3 (Nat.le_of_ble_eq_true hb)
   have hl:=run_loadCells_list (P:=P) w ⟨pl.B,pl.o + ((tmpG ad).1 T).3,none⟩ cs (fun j v hv => by rw [addr_add];exact g2 j v hv)
   rw [g1] at hl
   refine ⟨.agg cs.toArray :: us,?_,VR_mAgg (by simpa using g4) (by simpa using g3),h2⟩
   simp [List.mapM_cons,resM,hu,asAddr,loadVar,run_isAgg' ha,run_sizeOf' hs,hl,h1]
  | false =>
   rw [bA_false] at hk ⊢
   obtain ⟨hb,e⟩:=bA_ok hk
   rw [e] at hk ⊢
   obtain ⟨vs,e,hvs⟩:=res_ok hk
   refine ⟨_ :: vs,e,fun ρ lk nt lc n a w hE hA => ?_⟩
   obtain ⟨us,h1,h2⟩:=hvs ρ lk nt lc n a w hE hA
   obtain ⟨pl,hp,hu⟩:=VR_3 (tmp_rel hA ad) ht
   obtain ⟨_,_,_,hcell,_⟩:=row_of hE hp hr
   obtain ⟨u,hu1,_,hu3⟩:=hcell _ (bltE hb)
   rw [cellF_get]
   refine ⟨u :: us,?_,hu3,h2⟩
   simp [List.mapM_cons,resM,hu,asAddr,loadVar,run_isAgg' ha,hu1,h1]
theorem tup_rel {ρ:Rho}:∀ {vs:List AV} {us:List Value},VRs ρ vs us → VR ρ (tup vs) (if h:us.toArray.size = 1 then us.toArray[0] else .tuple us.toArray)
 | [],[],_ => by
  rw [dif_neg (by simp)]
  exact VR_mTup (l:=[]) (cs:=#[]) trivial
 | [v],[u],h => by
  rw [dif_pos (by simp)]
  exact h.1
 | v :: v' :: l,u :: u' :: us,h => by
  rw [dif_neg (by simp)]
  exact VR_mTup (l:=v :: v' :: l) (cs:=(u :: u' :: us).toArray) (by simpa using h)
 | [],_ :: _,h => h.elim
 | _ :: _,[],h => h.elim
 | [_],_ :: _ :: _,h => h.2.elim
 | _ :: _ :: _,[_],h => h.2.elim
def setT:List AV → Nat → Tmps → Tmps
 | [],_,T => T
 | v :: vs,i,T => setT vs (i + 1) (T.set i v)
theorem enterK_eq:∀ (vs:List AV) (i:Nat) (T:Tmps) (k:Tmps → Ans),enterK vs i T k = k (setT vs i T)
 | [],_,_,_ => rfl
 | v :: vs,i,T,k => by
  have h:enterK (v :: vs) i T k = (tmpF i).2 v T fun T => enterK vs (Nat.succ i) T k:=rfl
  rw [h,tmpF_put]
  exact enterK_eq vs (i + 1) (T.set i v) k
theorem setT_get:∀ (vs:List AV) (i:Nat) (T:Tmps) (j:Nat),i + vs.length ≤ maxTmps → j < maxTmps → (setT vs i T).get j = if i ≤ j ∧ j < i + vs.length then vs.getD (j - i) undefA else T.get j
 | [],i,T,j,_,_ => by
  rw [if_neg (by simp only [List.length_nil];omega)];rfl
 | v :: vs,i,T,j,h,hj => by
  simp only [List.length_cons] at h
  rw [setT,setT_get vs (i + 1) (T.set i v) j (by omega) hj,Tmps.get_set T i j v (by omega) hj]
  simp only [List.length_cons]
  by_cases h1:j = i
  ·subst h1
   rw [if_neg (by omega),if_pos rfl,if_pos (by omega)]
   simp
  ·by_cases h2:i + 1 ≤ j ∧ j < i + 1 + vs.length
   ·have h3:i ≤ j ∧ j < i + (vs.length + 1):=by omega
    have h4:j - i = (j - (i + 1)) + 1:=by omega
    simp [h2,h3,h4]
   ·have h3:¬ (i ≤ j ∧ j < i + (vs.length + 1)):=by omega
    simp [h1,h2,h3]
theorem memN_low {lc k i:Nat} (h:lc % 2 ^ k = 0) (hi:i < k):memN i lc = false:=by
 have h1:(lc % 2 ^ k).testBit i = (decide (i < k) && lc.testBit i):=Nat.testBit_mod_two_pow lc k i
 rw [h,Nat.zero_testBit] at h1
 have h2:lc.testBit i = false:=by simpa [hi] using h1.symm
 rw [Nat.testBit_eq_decide_div_mod_eq] at h2
 have h3:¬ lc / 2 ^ i % 2 = 1:=by simpa using h2
 have e:Nat.shiftRight lc i = lc / 2 ^ i:=Nat.shiftRight_eq_div_pow lc i
 unfold memN
 rw [e]
 exact nbF h3
theorem enter_rel {ρ:Rho} {nt lc:Nat} {vs:List AV} {args:Array Value} (hn:nt ≤ maxTmps) (hv:VRs ρ vs args.toList) (hle:vs.length ≤ nt) (hlc:lc % 2 ^ vs.length = 0) :
  ActL ρ nt lc (setT vs 0 tmps0) { tmps:=args ++ Array.replicate (nt - args.size) undef,defers:=[] }:=by
 have hl:=VRs_len hv
 have hl:vs.length = args.size:=by simpa using hl
 have hg:∀ t,t < maxTmps → (setT vs 0 tmps0).get t = if t < vs.length then vs.getD t undefA else undefA:=fun t ht => by
  rw [setT_get vs 0 tmps0 t (by omega) ht,tmps0_get]
  simp
 refine ⟨⟨by simp;omega,hn,fun t ht => ?_⟩,fun t ht hm => ?_⟩
 ·rw [hg t ht]
  by_cases h1:t < vs.length
  ·rw [if_pos h1]
   have h2:t < args.size:=by omega
   have:(args ++ Array.replicate (nt - args.size) undef).getD t undef = args[t]:=by
    rw [Array.getD_eq_getD_getElem?,Array.getElem?_append_left h2]
    simp [h2]
   simp only [this]
   exact VRs_get hv t _ (by simp [h2])
  ·rw [if_neg h1]
   exact VR_undef
 ·rw [hg t ht]
  by_cases h1:t < vs.length
  ·rw [memN_low hlc h1] at hm;cases hm
  ·rw [if_neg h1]
def FnOK (P:Program) (g:Nat) (f:FuncId) (x:FnF) (ihp:IH → Prop):Prop:=
 ∀ (cx:Cx) (vs:List AV) (h:Heap) (n:Nat) (K:Vk),ihp cx.2 → (x.1 cx vs h n K).ok →
  ∃ v h' n',x.1 cx vs h n K = K v h' n' ∧ ∀ (ρ:Rho) (args:Array Value) (w:World),Emb g cx.1 ρ h n w → VRs ρ vs args.toList →
   Calls P f args w fun e w' => ∃ u ρ',e = .returned u ∧ VR ρ' v u ∧ Emb g cx.1 ρ' h' n' w' ∧ Stp cx.1 ρ h n w ρ' h' n' w'
theorem backK_ok {x:Ans} {f:Tmps → Heap → Nat → Ans} (h:(backK x f).ok):∃ e T h' n',x = .fin e T h' n' ∧ (e = .normal ∨ e = .ret) ∧ backK x f = f T h' n':=by
 cases x with
 | fail w => exact h.elim
 | fin e T h' n' =>
  cases e with
  | normal => exact ⟨_,_,_,_,rfl,.inl rfl,rfl⟩
  | exit i => exact h.elim
  | ret => exact ⟨_,_,_,_,rfl,.inr rfl,rfl⟩
theorem Emb.put {g lk:Nat} {ρ:Rho} {h:Heap} {n:Nat} {w:World} (hE:Emb g lk ρ h n w) {D:Nat} (o:Obj) (hD:∀ b pl,b < n → (hget h b).1 ≠ 0 → ρ b = some pl → pl.B ≠ D):Emb g lk ρ h n (w.putObj D o):=
 hE.keep (by simp) fun b pl h1 h2 h3 => World.putObj_heap_other (hD b pl h1 h2 h3)
theorem Stp.put {lk:Nat} {ρ ρ':Rho} {h h':Heap} {n n':Nat} {w w':World} (s:Stp lk ρ h n w ρ' h' n' w') {D:Nat} (o:Obj) (hD:w.heap.size ≤ D):Stp lk ρ h n w ρ' h' n' (w'.putObj D o):=
 ⟨s.ext,s.nn,s.os,s.tape,s.output,by simpa using s.sz,fun B hB hn => by
  rw [World.putObj_heap_other (by omega)]
  exact s.unt B hB hn,s.own,s.lck,s.ded,s.nop⟩
theorem leaves_marks {fn:Func} {tmps:Array Value} {lk:Nat} {ρ ρ':Rho} {h h':Heap} {n n':Nat} {w:World} {v:AV} :
  ∀ (ds:List Deferred) (w':World),Df w.heap.size ρ' h' n' w' ds → Emb g lk ρ' h' n' w' → Stp lk ρ h n w ρ' h' n' w' → (∀ w'',Emb g lk ρ' h' n' w'' → ∃ u,(results fn tmps).run P w'' = .ok u w'' ∧ VR ρ' v u) →
   LeavesInM (FR none) 0 P fn tmps (fun e w' => ∃ u ρ',e = .returned u ∧ VR ρ' v u ∧ Emb g lk ρ' h' n' w' ∧ Stp lk ρ h n w ρ' h' n' w') ds .returning w'
 | [],w',_,hE,hS,hr => by
  obtain ⟨u,r1,r2⟩:=hr w' hE
  exact ⟨u,r1,u,ρ',rfl,r2,hE,hS⟩
 | d :: ds,w',hD,hE,hS,hr => by
  obtain ⟨D,e,hlo,hw,hn⟩:=hD.al d (by simp)
  refine ⟨by simp,.inl ⟨D,w'.putObj D (.deferred none),by rw [e],run_takeDeferred hw,?_⟩⟩
  refine leaves_marks ds (w'.putObj D (.deferred none)) ⟨fun d' hd' => ?_,(List.nodup_cons.1 hD.nd).2⟩ (hE.put _ hn) (hS.put _ hlo) hr
  obtain ⟨D',e',hlo',hw',hn'⟩:=hD.al d' (by simp [hd'])
  refine ⟨D',e',hlo',?_,hn'⟩
  rw [World.putObj_heap_other]
  ·exact hw'
  ·intro c
   subst c
   exact (List.nodup_cons.1 hD.nd).1 (by rw [e,← e'];exact hd')
theorem leave_ok {f:FuncId} {fn:Func} (_:P.funcs[f]? = some fn) {lk nt lc:Nat} {ρ:Rho} {h:Heap} {n:Nat} {w:World} {e:Ex} {T1:Tmps} {h3:Heap} {n3:Nat} {e':Exit} {a':Act} {w':World} {v:AV}
  (p:Post g lk nt lc w.heap.size ρ h n w e T1 h3 n3 e' a' w') (he:e = .normal ∨ e = .ret)
  (hr:∀ ρ' w'',ActL ρ' nt lc T1 a' → Emb g lk ρ' h3 n3 w'' → ∃ u,(results fn a'.tmps).run P w'' = .ok u w'' ∧ VR ρ' v u) :
  bodyPostM (FR none) 0 P fn (fun e w' => ∃ u ρ',e = .returned u ∧ VR ρ' v u ∧ Emb g lk ρ' h3 n3 w' ∧ Stp lk ρ h n w ρ' h3 n3 w') e' a' w':=by
 obtain ⟨p1,ρ',p2,pd,p3,p4⟩:=p
 have key:=leaves_marks (P:=P) (fn:=fn) (tmps:=a'.tmps) (v:=v) a'.defers w' pd p3 p4 (fun w'' q => hr ρ' w'' p2 q)
 rcases he with rfl | rfl
 ·have:=exR_normal p1
  subst this
  exact key
 ·have:=exR_ret p1
  subst this
  exact key
theorem body_ok {f:FuncId} {fn:Func} {c:Code} {lc:Nat} (hf:P.funcs[f]? = some fn) (hc:fn.body = some c) (hn:fn.ntmps ≤ maxTmps):FnOK P g f
  ⟨fun cx vs h n K => bA (Nat.ble (len vs) fn.ntmps) (bA (Nat.beq (Nat.mod lc (Nat.pow (nat_lit 2) (len vs))) (nat_lit 0)) (enterK vs (nat_lit 0) tmps0 fun T => backK (cx.2 fn.ntmps lc c cx.1 T h n) fun T h n => resK P fn.results.toList T h fun l => K (tup l) h n) (.fail 96)) (.fail 63)⟩ (IHok P g):=by
 intro cx vs h n K hI hk
 have hk:(bA (Nat.ble (len vs) fn.ntmps) (bA (Nat.beq (Nat.mod lc (Nat.pow (nat_lit 2) (len vs))) (nat_lit 0)) (enterK vs (nat_lit 0) tmps0 fun T => backK (cx.2 fn.ntmps lc c cx.1 T h n) fun T h n => resK P fn.results.toList T h fun l => K (tup l) h n) (.fail 96)) (.fail 63)).ok:=hk
 change ∃ v h' n',(bA (Nat.ble (len vs) fn.ntmps) (bA (Nat.beq (Nat.mod lc (Nat.pow (nat_lit 2) (len vs))) (nat_lit 0)) (enterK vs (nat_lit 0) tmps0 fun T => backK (cx.2 fn.ntmps lc c cx.1 T h n) fun T h n => resK P fn.results.toList T h fun l => K (tup l) h n) (.fail 96)) (.fail 63)) = K v h' n' ∧ _
 obtain ⟨h1,e⟩:=bA_ok hk
 rw [e] at hk ⊢
 obtain ⟨h2,e⟩:=bA_ok hk
 rw [e,enterK_eq] at hk ⊢
 obtain ⟨e1,T1,h3,n3,e2,e3,e4⟩:=backK_ok hk
 rw [e4] at hk ⊢
 obtain ⟨rs,e5,hrs⟩:=res_ok (g:=g) hk
 rw [e5]
 rw [len_eq] at h1 h2
 refine ⟨_,_,_,rfl,fun ρ args w hE hv => ?_⟩
 have hle:vs.length ≤ fn.ntmps:=Nat.le_of_ble_eq_true h1
 have hl:=VRs_len hv
 have hl:vs.length = args.size:=by simpa using hl
 refine callsIn_FR.1 (callsIn_of_wp_marks (F:=FR none) (n:=0) hf hc trivial (wpIn_mono (hI _ _ _ _ _ _ _ _ _ _ _ e2 none (.inl rfl) ρ _ w w.heap.size hE (enter_rel hn hv hle (Nat.eq_of_beq_eq_true h2)) Df.nil (Nat.le_refl _)).1 fun e' a' w' p => ?_))
 exact leave_ok hf p e3 fun ρ' w'' q2 q3 => by
  obtain ⟨us,r1,r2⟩:=hrs ρ' cx.1 fn.ntmps lc n3 a' w'' q3 q2
  refine ⟨_,?_,tup_rel r2⟩
  rw [results_eq,Array.mapM_eq_mapM_toList]
  simp [r1]
end EV
end
noncomputable section
namespace EV
open Go
variable {P:Program} {g:Nat}
def rhoL (pls:List Pl):Rho:=fun b => pls[b]?
def lfB (m:Nat) (v:AV):Bool:=
 bK (isPt v.1) (Nat.blt v.2 m) (bK (Nat.beq v.1 (nat_lit 2)) true (bK (Nat.beq v.1 (nat_lit 5)) true (bK (Nat.beq v.1 (nat_lit 6)) true (Nat.ble (nat_lit 16) v.1))))
def lfsB (m:Nat) (l:List AV):Bool:=List.rec (motive:=fun _ => Bool) true (fun x _ ih => bK (lfB m x) ih false) l
def okVB (m:Nat) (v:AV):Bool:=bK (Nat.beq v.1 (nat_lit 7)) (lfsB m v.4.4) (lfB m v)
def okVsB (m:Nat) (l:List AV):Bool:=List.rec (motive:=fun _ => Bool) true (fun x _ ih => bK (okVB m x) ih false) l
def okPB (g m:Nat) (l:List PB):Bool:=List.rec (motive:=fun _ => Bool) true (fun p _ ih => bK (lfsB m p.4) (bK (bK (Nat.beq p.2 (nat_lit 1)) (Nat.blt p.3 g) true) ih false) false) l
theorem lfsB_mem {m:Nat}:∀ {l:List AV},lfsB m l = true → ∀ x ∈ l,lfB m x = true
 | [],_,x,h => by simp at h
 | y :: l,h,x,hx => by
  obtain ⟨h1,h2⟩:=bK_t (show bK (lfB m y) (lfsB m l) false = true from h)
  rcases List.mem_cons.1 hx with rfl | hx
  ·exact h1
  ·exact lfsB_mem h2 x hx
theorem okVsB_mem {m:Nat}:∀ {l:List AV},okVsB m l = true → ∀ x ∈ l,okVB m x = true
 | [],_,x,h => by simp at h
 | y :: l,h,x,hx => by
  obtain ⟨h1,h2⟩:=bK_t (show bK (okVB m y) (okVsB m l) false = true from h)
  rcases List.mem_cons.1 hx with rfl | hx
  ·exact h1
  ·exact okVsB_mem h2 x hx
theorem okPB_mem {g m:Nat}:∀ {l:List PB},okPB g m l = true → ∀ p ∈ l,lfsB m p.4 = true ∧ (p.2 = 1 → p.3 < g)
 | [],_,x,h => by simp at h
 | y :: l,h,x,hx => by
  obtain ⟨h1,h2⟩:=bK_t (show bK (lfsB m y.4) (bK (bK (Nat.beq y.2 (nat_lit 1)) (Nat.blt y.3 g) true) (okPB g m l) false) false = true from h)
  obtain ⟨h2,h3⟩:=bK_t h2
  rcases List.mem_cons.1 hx with rfl | hx
  ·exact ⟨h1,fun e => by rw [nbT e] at h2;exact bltE h2⟩
  ·exact okPB_mem h3 x hx
theorem isPt_tag {t:Nat} (h:isPt t = true):t = 3 ∨ t = 4:=by
 unfold isPt at h
 by_cases h3:t = 3
 ·exact .inl h3
 ·rw [nbF h3] at h
  exact .inr (Nat.eq_of_beq_eq_true h)
theorem lfB_cases {m:Nat} {v:AV} (h:lfB m v = true):(isPt v.1 = true ∧ v.2 < m) ∨ (isPt v.1 = false ∧ (v.1 = 2 ∨ v.1 = 5 ∨ v.1 = 6 ∨ 16 ≤ v.1)):=by
 unfold lfB at h
 cases hp:isPt v.1 with
 | true => rw [hp] at h;exact .inl ⟨rfl,bltE h⟩
 | false =>
  rw [hp] at h
  refine .inr ⟨rfl,?_⟩
  have h:bK (Nat.beq v.1 2) true (bK (Nat.beq v.1 5) true (bK (Nat.beq v.1 6) true (Nat.ble 16 v.1))) = true:=h
  by_cases h2:v.1 = 2
  ·exact .inl h2
  ·rw [nbF h2] at h
   by_cases h5:v.1 = 5
   ·exact .inr (.inl h5)
   ·have h:bK (Nat.beq v.1 5) true (bK (Nat.beq v.1 6) true (Nat.ble 16 v.1)) = true:=h
    rw [nbF h5] at h
    have h:bK (Nat.beq v.1 6) true (Nat.ble 16 v.1) = true:=h
    by_cases h6:v.1 = 6
    ·exact .inr (.inr (.inl h6))
    ·rw [nbF h6] at h
     exact .inr (.inr (.inr (Nat.le_of_ble_eq_true h)))
theorem VR_leaf {ρ ρ':Rho} {v:AV} {u:Value} (hp:isPt v.1 = false) (h:v.1 = 2 ∨ v.1 = 5 ∨ v.1 = 6 ∨ 16 ≤ v.1) (hv:VR ρ v u):VR ρ' v u:=by
 rcases h with h | h | h | h
 ·have:=VR_2 hv h
  obtain ⟨t,a,b,x⟩:=v
  change t = 2 at h
  subst h
  simpa [VR] using this
 ·have:=VR_5 hv h
  obtain ⟨t,a,b,x⟩:=v
  change t = 5 at h
  subst h
  simpa [VR] using this
 ·have:=VR_6 hv h
  obtain ⟨t,a,b,x⟩:=v
  change t = 6 at h
  subst h
  simpa [VR] using this
 ·obtain ⟨k,h1,h2,h3⟩:=VR_i' hv (by omega)
  obtain ⟨t,a,b,x⟩:=v
  change t = kc k at h1
  subst h1
  rw [h3]
  cases k <;> exact ⟨_,rfl,h2,rfl⟩
theorem VR_move {ρ ρ':Rho} {v:AV} {u:Value} {b o:Nat} {pl pl':Pl} (hp:isPt v.1 = true) (h1:ρ b = some pl) (h2:ρ' v.2 = some pl') (hB:pl'.B = pl.B) (ho:pl'.o = pl.o + o) (hR:pl'.R + o = pl.R) :
  VR ρ ⟨v.1,b,o + v.3,v.4⟩ u ↔ VR ρ' v u:=by
 obtain ⟨t,a,c,x⟩:=v
 rcases isPt_tag hp with h | h
 ·change t = 3 at h
  subst h
  constructor
  ·intro hv
   obtain ⟨q,q1,q2⟩:=VR_3 hv rfl
   have q1:ρ b = some q:=q1
   rw [h1] at q1
   cases q1
   refine ⟨pl',h2,?_⟩
   rw [q2,hB,ho]
   change Value.pointer (some ⟨pl.B,pl.o + (o + c),none⟩) = _
   rw [Nat.add_assoc]
  ·intro hv
   obtain ⟨q,q1,q2⟩:=VR_3 hv rfl
   have q1:ρ' a = some q:=q1
   have h2:ρ' a = some pl':=h2
   rw [h2] at q1
   cases q1
   refine ⟨pl,h1,?_⟩
   rw [q2,hB,ho]
   change Value.pointer (some ⟨pl.B,pl.o + o + c,none⟩) = _
   rw [Nat.add_assoc]
 ·change t = 4 at h
  subst h
  constructor
  ·intro hv
   obtain ⟨q,A,cap,q1,q2,q3,q4,q5,q6⟩:=VR_4 hv rfl
   have q1:ρ b = some q:=q1
   rw [h1] at q1
   cases q1
   refine ⟨pl',A,cap,h2,q2,q3,fun hz => ?_,?_,q6⟩
   ·obtain ⟨r1,r2⟩:=q4 hz
    have r2:o + c + cap * x.3 ≤ pl.R:=r2
    exact ⟨r1,by omega⟩
   ·rcases q5 with e | e
    ·refine .inl ?_
     rw [e,hB,ho]
     change (⟨pl.B,pl.o + (o + c),none⟩:Addr) = _
     rw [Nat.add_assoc]
    ·exact .inr e
  ·intro hv
   obtain ⟨q,A,cap,q1,q2,q3,q4,q5,q6⟩:=VR_4 hv rfl
   have q1:ρ' a = some q:=q1
   have h2:ρ' a = some pl':=h2
   rw [h2] at q1
   cases q1
   refine ⟨pl,A,cap,h1,q2,q3,fun hz => ?_,?_,q6⟩
   ·obtain ⟨r1,r2⟩:=q4 hz
    have r2:c + cap * x.3 ≤ pl'.R:=r2
    exact ⟨r1,by omega⟩
   ·rcases q5 with e | e
    ·refine .inl ?_
     rw [e,hB,ho]
     change (⟨pl.B,pl.o + o + c,none⟩:Addr) = _
     rw [Nat.add_assoc]
    ·exact .inr e
end EV
end
noncomputable section
namespace EV
open Go
variable {P:Program} {g:Nat}
def pbAO (tag s:Nat) (p:PB):AO:=⟨tag,p.1,p.4.length,setL p.4 0 cells0,[],s⟩
structure Keeps (w w':World):Prop where
 os:w'.os = w.os
 tape:w'.tape = w.tape
 output:w'.output = w.output
 sz:w.heap.size ≤ w'.heap.size
 kp:∀ B,B < w.heap.size → w'.heap[B]? = w.heap[B]?
structure WfE (g:Nat) (E:Ent):Prop where
 as:∀ x ∈ E.1,okVB E.2.length x = true
 ab:∀ p ∈ E.2,lfsB E.2.length p.4 = true ∧ (p.2 = 1 → p.3 < g)
 r:∀ x ∈ E.3,okVB E.4.length x = true
 rb:∀ p ∈ E.4,lfsB E.4.length p.4 = true
def EntOK (P:Program) (g:Nat) (f:FuncId) (E:Ent):Prop:=
 WfE g E ∧ ∀ (w:World) (us:Array Value) (pls:List Pl),(∀ b,b < g → b < w.heap.size) → pls.length = E.2.length →
  (∀ (i:Nat) (p:PB),E.2[i]? = some p → ∃ pl,pls[i]? = some pl ∧ pl.B < w.heap.size ∧ OW (rhoL pls) (pbAO 2 1 p) pl w ∧ (p.2 = 1 → pl.B = p.3 ∧ pl.o = 0)) → VRs (rhoL pls) E.1 us.toList →
   Calls P f us w fun e w' => ∃ (rs:List Value) (pls':List Pl),e = .returned (if h:rs.toArray.size = 1 then rs.toArray[0] else .tuple rs.toArray) ∧ VRs (rhoL pls') E.3 rs ∧ pls'.length = E.4.length ∧
    (∀ (i:Nat) (p:PB),E.4[i]? = some p → ∃ pl,pls'[i]? = some pl ∧ w.heap.size ≤ pl.B ∧ pl.B < w'.heap.size ∧ OW (rhoL pls') (pbAO 1 0 p) pl w') ∧
    (∀ (i j:Nat) (pl pl':Pl),i ≠ j → pls'[i]? = some pl → pls'[j]? = some pl' → pl.B ≠ pl'.B) ∧ Keeps w w'
theorem nthF_get:∀ {l:List FB} {i:Nat} {x:FB},l[i]? = some x → nthF l i = x
 | [],i,x,h => by simp at h
 | y :: l,0,x,h => by simp at h;exact h
 | y :: l,i + 1,x,h => by
  have:nthF (y :: l) (i + 1) = nthF l i:=rfl
  rw [this]
  exact nthF_get (by simpa using h)
structure Fnd (h:Heap) (n:Nat) (p:PB) (x:FB):Prop where
 lt:x.1 < n
 row:isRow (hget h x.1) = true
 ty:(hget h x.1).2 = p.1
 le:x.2 + p.4.length ≤ (hget h x.1).3
 cl:x.3 = getL p.4.length x.2 (hget h x.1).4
 pc:x.4 = p.4
 gl:p.2 = 1 → x.1 = p.3 ∧ x.2 = 0
theorem fO_eq (r:AO) (k:AO → Ans):fO r k = k r:=by
 obtain ⟨t,e,l,c,es,s⟩:=r
 rfl
theorem getS_eq:∀ (n o:Nat) (c:Cells) (k:List AV → Ans),getS n o c k = k (getL n o c)
 | 0,o,c,k => rfl
 | n + 1,o,c,k => by
  have e:getS (n + 1) o c k = fA ((cellF o).1 c) fun v => fT (Nat.succ o) fun o => getS n o c fun r => k (v :: r):=rfl
  rw [e,fA_eq,fT_eq,getS_eq n,cellF_get]
  congr 1
  unfold getL
  rw [List.range_succ_eq_map]
  simp only [List.map_cons,List.map_map,Nat.add_zero]
  congr 1
  apply List.map_congr_left
  intro i _
  simp only [Function.comp]
  congr 1
  omega
theorem findP_ok {vs:List AV} {h:Heap} {n:Nat} {els:Ans} {k:List FB → Ans}:∀ (ab:List PB) (fs:List FB),findP vs h n els ab fs k = els ∨
  ∃ fs',findP vs h n els ab fs k = k fs' ∧ fs'.length = fs.length + ab.length ∧ (∀ j,j < fs.length → fs'[fs'.length - 1 - j]? = fs[fs.length - 1 - j]?) ∧ (∀ (i:Nat) (p:PB),ab[i]? = some p → ∃ x,fs'[fs'.length - 1 - (fs.length + i)]? = some x ∧ Fnd h n p x) ∧ ∀ x ∈ fs',x ∈ fs ∨ ∃ p ∈ ab,Fnd h n p x
 | [],fs => .inr ⟨fs,rfl,by simp,fun _ _ => rfl,fun i p hp => by simp at hp,fun x hx => .inl hx⟩
 | p :: ab,fs => by
  have e:findP vs h n els (p :: ab) fs k = fA (srcV vs fs p.2 p.3) fun v => bA (isPt v.1) (bA (Nat.blt v.2 n) (fO ((heapF v.2).1 h) fun r => bA (isRow r) (bA (Nat.beq r.2 p.1)
   (bA (Nat.ble (Nat.add v.3 (len p.4)) r.3)
    (fT v.2 fun b => fT v.3 fun o => getS (len p.4) o r.4 fun l => findP vs h n els ab (⟨b,o,l,p.4⟩ :: fs) k) els) els) els) els) els:=rfl
  rw [e]
  have hg:p.2 = 1 → srcV vs fs p.2 p.3 = mPtr p.3 0:=fun h1 => by unfold srcV;rw [h1];rfl
  generalize srcV vs fs p.2 p.3 = v at hg
  simp only [fA_eq,fO_eq,fT_eq,getS_eq,heapF_get]
  cases h1:isPt v.1 with
  | false => exact .inl rfl
  | true =>
  cases h2:Nat.blt v.2 n with
  | false => exact .inl rfl
  | true =>
  cases h3:isRow (hget h v.2) with
  | false => exact .inl rfl
  | true =>
  cases h4:Nat.beq (hget h v.2).2 p.1 with
  | false => exact .inl rfl
  | true =>
  cases h5:Nat.ble (Nat.add v.3 (len p.4)) (hget h v.2).3 with
  | false => exact .inl rfl
  | true =>
  have hf:Fnd h n p ⟨v.2,v.3,getL (len p.4) v.3 (hget h v.2).4,p.4⟩:=
   ⟨bltE h2,h3,Nat.eq_of_beq_eq_true h4,by have:=Nat.le_of_ble_eq_true h5;rwa [len_eq] at this,by rw [len_eq],rfl,fun c => by rw [hg c];exact ⟨rfl,rfl⟩⟩
  have e2:bA true (bA true (bA true (bA true (bA true (findP vs h n els ab (⟨v.2,v.3,getL (len p.4) v.3 (hget h v.2).4,p.4⟩ :: fs) k) els) els) els) els) els = findP vs h n els ab (⟨v.2,v.3,getL (len p.4) v.3 (hget h v.2).4,p.4⟩ :: fs) k:=rfl
  rw [e2]
  rcases findP_ok ab (⟨v.2,v.3,getL (len p.4) v.3 (hget h v.2).4,p.4⟩ :: fs) with e3 | ⟨fs',e3,q1,q2,q3,q4⟩
  ·exact .inl e3
  ·simp only [List.length_cons] at q1 q2 q3
   refine .inr ⟨fs',e3,by simp only [List.length_cons];omega,fun j hj => ?_,fun i q hq => ?_,fun x hx => ?_⟩
   ·rw [q2 j (by omega)]
    have:fs.length + 1 - 1 - j = (fs.length - 1 - j) + 1:=by omega
    rw [this]
    simp
   ·cases i with
    | zero =>
     simp at hq
     subst hq
     refine ⟨_,?_,hf⟩
     have:=q2 fs.length (by omega)
     rw [show fs.length + 1 - 1 - fs.length = 0 by omega] at this
     simpa using this
    | succ i =>
     obtain ⟨x,x1,x2⟩:=q3 i q (by simpa using hq)
     exact ⟨x,by rw [show fs.length + (i + 1) = fs.length + 1 + i by omega];exact x1,x2⟩
   ·rcases q4 x hx with c | ⟨q,c1,c2⟩
    ·rcases List.mem_cons.1 c with rfl | c
     ·exact .inr ⟨p,by simp,hf⟩
     ·exact .inl c
    ·exact .inr ⟨q,by simp [c1],c2⟩
theorem fits_get {fs:List FB} {m:Nat}:∀ {pc l:List AV},fits fs m pc l = true → pc.length = l.length ∧ ∀ (i:Nat) (x:AV),pc[i]? = some x → l[i]? = some (ren0 fs m x)
 | [],l,h => by
  have:=nilL_eq h
  subst this
  exact ⟨rfl,fun i x hx => by simp at hx⟩
 | x :: pc,[],h => by cases h
 | x :: pc,y :: l,h => by
  obtain ⟨h1,h2⟩:=bK_t (show bK (leafE (ren0 fs m x) y) (fits fs m pc l) false = true from h)
  obtain ⟨h3,h4⟩:=fits_get h2
  refine ⟨by simp [h3],fun i z hz => ?_⟩
  cases i with
  | zero => simp at hz;subst hz;simp [leafE_eq h1]
  | succ i => simpa using h4 i z (by simpa using hz)
theorem fitB_mem {fs:List FB} {m:Nat}:∀ {l:List FB},fitB fs m l = true → ∀ x ∈ l,fits fs m x.4 x.3 = true
 | [],_,x,h => by simp at h
 | y :: l,h,x,hx => by
  obtain ⟨h1,h2⟩:=bK_t (show bK (fits fs m y.4 y.3) (fitB fs m l) false = true from h)
  rcases List.mem_cons.1 hx with rfl | hx
  ·exact h1
  ·exact fitB_mem h2 x hx
theorem fitVs_get {fs:List FB} {m:Nat}:∀ {xs l:List AV},fitVs fs m xs l = true → xs.length = l.length ∧ ∀ (i:Nat) (x y:AV),xs[i]? = some x → l[i]? = some y → fitV fs m x y = true
 | [],l,h => by
  have:=nilL_eq h
  subst this
  exact ⟨rfl,fun i x y hx => by simp at hx⟩
 | x :: xs,[],h => by cases h
 | x :: xs,y :: l,h => by
  obtain ⟨h1,h2⟩:=bK_t (show bK (fitV fs m x y) (fitVs fs m xs l) false = true from h)
  obtain ⟨h3,h4⟩:=fitVs_get h2
  refine ⟨by simp [h3],fun i z z' hz hz' => ?_⟩
  cases i with
  | zero => simp at hz hz';subst hz;subst hz';exact h1
  | succ i => exact h4 i z z' (by simpa using hz) (by simpa using hz')
def plOf (ρ:Rho) (x:FB):Pl:=match ρ x.1 with | some pl => ⟨pl.B,pl.o + x.2,pl.R - x.2⟩ | none => ⟨0,0,0⟩
def plsOf (ρ:Rho) (fs:List FB):List Pl:=(fs.map (plOf ρ)).reverse
theorem plsOf_get {ρ:Rho} {fs:List FB} {i:Nat} (hi:i < fs.length) {x:FB} (hx:fs[fs.length - 1 - i]? = some x):(plsOf ρ fs)[i]? = some (plOf ρ x):=by
 unfold plsOf
 rw [List.getElem?_reverse (by simpa using hi)]
 simp [hx]
section
variable {ρ:Rho} {h:Heap} {n lk:Nat} {w:World} {fs:List FB} {m:Nat}
theorem found_place (hE:Emb g lk ρ h n w) {p:PB} {x:FB} (hx:Fnd h n p x):∃ pl,ρ x.1 = some pl ∧ plOf ρ x = ⟨pl.B,pl.o + x.2,pl.R - x.2⟩ ∧ x.2 + p.4.length ≤ pl.R ∧ pl.B < w.heap.size:=by
 have ht:(hget h x.1).1 ≠ 0:=by rcases isRow_tag hx.row with e | e | e <;> omega
 obtain ⟨pl,h1,h2⟩:=hE.ob x.1 hx.lt ht
 obtain ⟨_,_,a3,_⟩:=h2.1 hx.row
 have:=hx.le
 exact ⟨pl,h1,by unfold plOf;rw [h1],by omega,(hE.bd _ _ h1).2⟩
theorem leaf_found (hE:Emb g lk ρ h n w) (hm:fs.length = m) (hall:∀ i,i < m → ∃ x p,fs[m - 1 - i]? = some x ∧ Fnd h n p x) {v:AV} {u:Value} (hv:lfB m v = true) (hu:VR ρ (ren0 fs m v) u):VR (rhoL (plsOf ρ fs)) v u:=by
 rcases lfB_cases hv with ⟨hp,hlt⟩ | ⟨hp,ht⟩
 ·obtain ⟨x,p,hx,hf⟩:=hall v.2 hlt
  obtain ⟨pl,q1,q2,q3,_⟩:=found_place hE hf
  have e:ren0 fs m v = ⟨v.1,x.1,x.2 + v.3,v.4⟩:=by
   unfold ren0
   have e2:nthF fs (Nat.sub (Nat.sub m 1) v.2) = x:=nthF_get hx
   rw [hp,e2]
   rfl
  rw [e] at hu
  have hpl:rhoL (plsOf ρ fs) v.2 = some (plOf ρ x):=plsOf_get (by omega) (by rw [hm];exact hx)
  rw [q2] at hpl
  exact (VR_move hp q1 hpl rfl rfl (by change pl.R - x.2 + x.2 = pl.R;omega)).1 hu
 ·have e:ren0 fs m v = v:=by unfold ren0;rw [hp];rfl
  rw [e] at hu
  exact VR_leaf hp ht hu
theorem leaves_found (hE:Emb g lk ρ h n w) (hm:fs.length = m) (hall:∀ i,i < m → ∃ x p,fs[m - 1 - i]? = some x ∧ Fnd h n p x):∀ {pc l:List AV} {us:List Value},(∀ x ∈ pc,lfB m x = true) → fits fs m pc l = true → VRs ρ l us → VRs (rhoL (plsOf ρ fs)) pc us
 | [],l,us,_,hf,hu => by
  have:=nilL_eq hf
  subst this
  cases us with
  | nil => trivial
  | cons _ _ => exact hu.elim
 | x :: pc,[],us,_,hf,_ => by cases hf
 | x :: pc,y :: l,[],_,_,hu => hu.elim
 | x :: pc,y :: l,u :: us,hok,hf,hu => by
  obtain ⟨h1,h2⟩:=bK_t (show bK (leafE (ren0 fs m x) y) (fits fs m pc l) false = true from hf)
  refine ⟨leaf_found hE hm hall (hok x (by simp)) (by rw [leafE_eq h1];exact hu.1),leaves_found hE hm hall (fun z hz => hok z (by simp [hz])) h2 hu.2⟩
theorem val_found (hE:Emb g lk ρ h n w) (hm:fs.length = m) (hall:∀ i,i < m → ∃ x p,fs[m - 1 - i]? = some x ∧ Fnd h n p x) {v y:AV} {u:Value} (hv:okVB m v = true) (hf:fitV fs m v y = true) (hu:VR ρ y u):VR (rhoL (plsOf ρ fs)) v u:=by
 unfold okVB at hv
 unfold fitV at hf
 by_cases h7:v.1 = 7
 ·rw [nbT h7] at hv hf
  obtain ⟨f1,f2⟩:=bK_t (show bK (Nat.beq y.1 7) (fits fs m v.4.4 y.4.4) false = true from hf)
  have hv:lfsB m v.4.4 = true:=hv
  obtain ⟨cs,hc,q1,q2⟩:=VR_7 hu (Nat.eq_of_beq_eq_true f1)
  have:=leaves_found hE hm hall (lfsB_mem hv) f2 q1
  obtain ⟨t,a,b,c,d,e,l,mm⟩:=v
  change t = 7 at h7
  subst h7
  exact ⟨cs,hc,this,q2⟩
 ·rw [nbF h7] at hv hf
  have hv:lfB m v = true:=hv
  have hf:leafE (ren0 fs m v) y = true:=hf
  exact leaf_found hE hm hall hv (by rw [leafE_eq hf];exact hu)
theorem vals_found (hE:Emb g lk ρ h n w) (hm:fs.length = m) (hall:∀ i,i < m → ∃ x p,fs[m - 1 - i]? = some x ∧ Fnd h n p x):∀ {xs l:List AV} {us:List Value},(∀ x ∈ xs,okVB m x = true) → fitVs fs m xs l = true → VRs ρ l us → VRs (rhoL (plsOf ρ fs)) xs us
 | [],l,us,_,hf,hu => by
  have:=nilL_eq hf
  subst this
  cases us with
  | nil => trivial
  | cons _ _ => exact hu.elim
 | x :: pc,[],us,_,hf,_ => by cases hf
 | x :: pc,y :: l,[],_,_,hu => hu.elim
 | x :: pc,y :: l,u :: us,hok,hf,hu => by
  obtain ⟨h1,h2⟩:=bK_t (show bK (fitV fs m x y) (fitVs fs m pc l) false = true from hf)
  exact ⟨val_found hE hm hall (hok x (by simp)) h1 hu.1,vals_found hE hm hall (fun z hz => hok z (by simp [hz])) h2 hu.2⟩
theorem block_found (hE:Emb g lk ρ h n w) (hm:fs.length = m) (hall:∀ i,i < m → ∃ x p,fs[m - 1 - i]? = some x ∧ Fnd h n p x) {p:PB} {x:FB} (hf:Fnd h n p x) (hok:lfsB m p.4 = true) (hfit:fits fs m p.4 x.3 = true):OW (rhoL (plsOf ρ fs)) (pbAO 2 1 p) (plOf ρ x) w:=by
 obtain ⟨pl,q1,q2,q3,_⟩:=found_place hE hf
 obtain ⟨a1,a2,a3,a4,_⟩:=row_of hE q1 hf.row
 have hle:=hf.le
 rw [q2]
 refine ⟨fun _ => ⟨fun c => (by cases c),?_,?_,?_,fun i hi => ?_,fun c => (by rcases c with c | c <;> cases c)⟩,fun c => (by cases c),fun c => (by cases c)⟩
 ·change w.shape? pl.B = some (p.1,pl.o + x.2 + (pl.R - x.2))
  rw [a1,hf.ty]
  congr 2
  omega
 ·change p.4.length ≤ pl.R - x.2
  omega
 ·change p.4.length ≤ maxCells
  omega
 ·change i < p.4.length at hi
  obtain ⟨u,u1,u2,u3⟩:=a4 (x.2 + i) (by omega)
  refine ⟨u,?_,u2,?_⟩
  ·change w.cell? ⟨pl.B,pl.o + x.2 + i,none⟩ = some u
   rw [Nat.add_assoc]
   exact u1
  ·have e1:(setL p.4 0 cells0).get i = p.4.getD i undefA:=by
    have:=setL_get p.4 0 cells0 i (by omega) (by omega)
    rw [if_pos (by omega)] at this
    simpa using this
   change VR (rhoL (plsOf ρ fs)) ((setL p.4 0 cells0).get i) u
   rw [e1]
   obtain ⟨z,hz⟩:∃ z,p.4[i]? = some z:=⟨p.4[i],by simp [hi]⟩
   have e2:p.4.getD i undefA = z:=by rw [List.getD_eq_getElem?_getD,hz];rfl
   rw [e2]
   have e3:=(fits_get hfit).2 i z hz
   rw [hf.cl] at e3
   have e4:(getL p.4.length x.2 (hget h x.1).4)[i]? = some ((hget h x.1).4.get (x.2 + i)):=by
    unfold getL
    simp [hi]
   rw [e4] at e3
   have e3:=Option.some.inj e3
   exact leaf_found hE hm hall (lfsB_mem hok z (List.mem_of_getElem? hz)) (by rw [← e3];exact u3)
end
end EV
end
