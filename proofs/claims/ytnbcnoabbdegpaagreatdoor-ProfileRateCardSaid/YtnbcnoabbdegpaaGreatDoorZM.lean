/- A part of the proof of the tied card of ProfileRate (chapter 53): the law returns true whatever the input. -/
import Derived.Lib.Split
import Derived.Test.YtnbcnoabbdegpaaGreatDoorZS
import Derived.Test.YtnbcnoabbdegpaaGreatDoorZU4
import Derived.Lib.SplitLaws
set_option linter.unusedVariables false
set_option linter.unusedSimpArgs false
namespace PM
abbrev K:=List UInt8
abbrev P:=List (K × Int)
theorem lt_irrefl (a:K):¬ a < a:=List.lt_irrefl a
theorem lt_trans {a b c:K} (h:a < b) (h':b < c):a < c:=List.lt_trans h h'
def Asc:P → Prop
 | [] => True
 | (k,_) :: t => (∀ x ∈ t,k < x.1) ∧ Asc t
def get:P → K → Option Int
 | [],_ => none
 | (k,n) :: t,x => if k = x then some n else get t x
theorem get_mem {t:P} {k:K} {n:Int} (h:get t k = some n):(k,n) ∈ t:=by
 induction t with
 | nil => simp [get] at h
 | cons y t ih =>
  obtain ⟨k',m⟩:=y
  rw [get] at h
  by_cases e:k' = k
  ·rw [if_pos e] at h;cases h;exact e ▸ List.mem_cons_self ..
  ·rw [if_neg e] at h;exact List.mem_cons_of_mem _ (ih h)
theorem get_of_mem {t:P} (ha:Asc t) {k:K} {n:Int} (h:(k,n) ∈ t):get t k = some n:=by
 induction t with
 | nil => cases h
 | cons y t ih =>
  obtain ⟨k',m⟩:=y
  obtain ⟨h1,h2⟩:=ha
  rw [get]
  rcases List.mem_cons.1 h with e | e
  ·cases e;rw [if_pos rfl]
  ·have h3:=h1 _ e
   have hne:k' ≠ k:=fun e' => lt_irrefl k (by subst e';exact h3)
   rw [if_neg hne];exact ih h2 e
open Go.Lib
def em:Bool → List UInt8 → Bool
 | b,[] => b
 | b,c :: t => if c = 47 then b || em true t else em false t
theorem em_part:∀ (u t:List UInt8) (b:Bool),(47:UInt8) ∉ u → em b (u ++ 47 :: t) = ((b && u.isEmpty) || em true t)
 | [],t,b,_ => by simp [em]
 | c :: u,t,b,h => by
  have h1:c ≠ 47:=fun e => h (e ▸ List.mem_cons_self ..)
  have h2:(47:UInt8) ∉ u:=fun e => h (List.mem_cons_of_mem _ e)
  rw [List.cons_append,em,if_neg h1,em_part u t false h2]
  simp
theorem em_last:∀ (u:List UInt8) (b:Bool),(47:UInt8) ∉ u → em b u = (b && u.isEmpty)
 | [],b,_ => by simp [em]
 | c :: u,b,h => by
  have h1:c ≠ 47:=fun e => h (e ▸ List.mem_cons_self ..)
  have h2:(47:UInt8) ∉ u:=fun e => h (List.mem_cons_of_mem _ e)
  rw [em,if_neg h1,em_last u false h2]
  simp
theorem occ1 (s:List UInt8) (i:Nat):occAt s [47] i = true ↔ s[i]? = some 47:=by
 unfold occAt
 cases h:s.drop i with
 | nil => simp [List.isPrefixOf,List.drop_eq_nil_iff.1 h]
 | cons c t =>
  have:s[i]? = some c:=by
   have:=congrArg List.head? h
   rwa [List.head?_drop,List.head?_cons] at this
  rw [this]
  simp [List.isPrefixOf]
  exact eq_comm
theorem parts_empty:∀ (n:Nat) (s:List UInt8),s.length ≤ n → ([] ∈ splitK [47] 0 (count s [47]) s ↔ em true s = true)
 | n,s,hn => by
  rcases index_spec s [47] with ⟨h,h1⟩ | ⟨i,h,h1,h2,h3⟩
  ·have hne:(47:UInt8) ∉ s:=fun hm => by
    obtain ⟨j,hj,e⟩:=List.mem_iff_getElem.1 hm
    have:=(occ1 s j).2 (by rw [List.getElem?_eq_getElem hj,e])
    rw [h1 j (by omega)] at this;cases this
   rw [count_miss h,em_last s true hne]
   cases s <;> simp [splitK]
  ·have e1:s[i]? = some 47:=(occ1 s i).1 h2
   have hi:i < s.length:=by
    rcases Nat.lt_or_ge i s.length with h | h
    ·exact h
    ·rw [List.getElem?_eq_none h] at e1;cases e1
   have e2:s = s.take i ++ 47 :: s.drop (i + 1):=by
    have:=List.take_append_drop i s
    rw [List.drop_eq_getElem_cons hi] at this
    rw [List.getElem?_eq_getElem hi] at e1
    rw [Option.some.inj e1] at this
    exact this.symm
   have hne:(47:UInt8) ∉ s.take i:=fun hm => by
    obtain ⟨j,hj,e⟩:=List.mem_iff_getElem.1 hm
    rw [List.length_take] at hj
    have:=(occ1 s j).2 (by rw [List.getElem?_eq_getElem (by omega),← e,List.getElem_take])
    have h4:=h3 j (by omega)
    rw [this] at h4;cases h4
   match n,hn with
   | 0,hn => omega
   | n + 1,hn =>
   have ih:=parts_empty n (s.drop (i + 1)) (by rw [List.length_drop];omega)
   have hc:count s [47] = 1 + count (s.drop (i + 1)) [47]:=count_hit (by simp) h
   have hs:splitK [47] 0 (count s [47]) s = s.take i :: splitK [47] 0 (count (s.drop (i + 1)) [47]) (s.drop (i + 1)):=by
    rw [hc,Nat.add_comm 1,splitK,h,if_neg (by intro e;have:=beq_iff_eq.1 e;omega)]
    rfl
   rw [hs,List.mem_cons,ih]
   conv => rhs;rw [e2]
   rw [em_part _ _ _ hne]
   rw [Bool.or_eq_true,Bool.true_and,List.isEmpty_iff]
   exact or_congr eq_comm Iff.rfl
termination_by n => n
end PM
namespace Go.Proofs.YtnbcnoabbdegpaaGreatDoor.P
open Go Go.RowKit Go.Proofs.YtnbcnoabbdegpaaGreatDoorW.PrintWords Go.Proofs.YtnbcnoabbdegpaaGreatDoor.V
set_option linter.unusedVariables false
theorem ws (i c:Nat) (h:i + c ≤ 1000000):wrap64 ((i:Int) + (c:Int)) = ((i + c:Nat):Int):=by unfold wrap64;omega
theorem ws1 (i:Nat) (h:i ≤ 100000):wrap64 ((i:Int) + 1) = ((i + 1:Nat):Int):=ws i 1 (by omega)
theorem ws2 (i:Nat) (h:i ≤ 100000):wrap64 ((i:Int) + 2) = ((i + 2:Nat):Int):=ws i 2 (by omega)
theorem wp1 (i:Nat) (h:i ≤ 100000) (h1:0 < i):wrap64 ((i:Int) - 1) = ((i - 1:Nat):Int):=by unfold wrap64;omega
theorem bl (s:ByteArray):s.toList.length = s.size:=by rw [Lib.toList_data];simp
theorem smallEq (a:Int):∃ b,ancepsref05_small.f a = some b ∧ token_small.f a = some b:=by
 unfold ancepsref05_small.f token_small.f
 by_cases h:a ≥ 97
 ·exact ⟨_,by rw [if_pos h],by rw [if_pos h]⟩
 ·exact ⟨_,by rw [if_neg h],by rw [if_neg h]⟩
theorem digitEq (a:Int):∃ b,ancepsref05_digit.f a = some b ∧ token_digit.f a = some b:=by
 unfold ancepsref05_digit.f token_digit.f
 by_cases h:a ≥ 48
 ·exact ⟨_,by rw [if_pos h],by rw [if_pos h]⟩
 ·exact ⟨_,by rw [if_neg h],by rw [if_neg h]⟩
theorem nameLoop (s:ByteArray) (hs:s.size ≤ 20):∀ d i,d + i = s.size → ∃ r,∀ k,2 * d + 1 ≤ k → ancepsref05_name.l0 k s (i:Int) = some r ∧ token_name.l0 k s (i:Int) = some r:=by
 intro d
 induction d using Nat.strongRecOn with
 | _ d ih =>
 intro i h
 by_cases hd:d = 0
 ·have h1:¬ (i:Int) < (s.size:Int):=by omega
  refine ⟨i,fun k hk => ?_⟩
  obtain ⟨k,rfl⟩:∃ k',k = k' + 1:=⟨k - 1,by omega⟩
  exact ⟨by simp only [ancepsref05_name.l0,if_neg h1],by simp only [token_name.l0,if_neg h1]⟩
 ·have h1:(i:Int) < (s.size:Int):=by omega
  have h2:0 ≤ (i:Int):=by omega
  have w1:=ws1 i (by omega)
  have w2:=ws2 i (by omega)
  obtain ⟨r1,ih1⟩:=ih (d - 1) (by omega) (i + 1) (by omega)
  obtain ⟨b,e1,e2⟩:=smallEq (bt s (i:Int))
  obtain ⟨c,e3,e4⟩:=digitEq (bt s (i:Int))
  have T:∀ b:Bool,∃ r,∀ k,2 * d ≤ k + 1 → ancepsref05_name.j2 (k + 1) s (i:Int) b = some r ∧ token_name.j2 (k + 1) s (i:Int) (bt s (i:Int)) b = some r:=by
   intro b
   simp only [ancepsref05_name.j2,token_name.j2,w1,w2]
   by_cases hb:b = true
   ·refine ⟨r1,fun k hk => ?_⟩
    rw [if_pos hb,if_pos hb];exact ih1 k (by omega)
   ·by_cases h45:bt s (i:Int) = 45
    ·by_cases hl:((i + 1:Nat):Int) = (s.size:Int)
     ·refine ⟨i,fun k hk => ?_⟩
      rw [if_neg hb,if_neg hb,if_pos h2,if_pos h1,if_pos h45,if_pos h45,if_pos hl,if_neg (by omega)];exact ⟨rfl,rfl⟩
     ·have h3:((i + 1:Nat):Int) < (s.size:Int):=by omega
      have h4:0 ≤ ((i + 1:Nat):Int):=by omega
      obtain ⟨r2,ih2⟩:=ih (d - 2) (by omega) (i + 2) (by omega)
      obtain ⟨b,f1,f2⟩:=smallEq (bt s ((i + 1:Nat):Int))
      obtain ⟨c,f3,f4⟩:=digitEq (bt s ((i + 1:Nat):Int))
      refine ⟨if b || c then r2 else i,fun k hk => ?_⟩
      have ih2:=ih2 k (by omega)
      rw [if_neg hb,if_neg hb,if_pos h2,if_pos h1,if_pos h45,if_pos h45,if_neg hl,if_pos h4,if_pos h3,if_pos h3,if_pos h4,f1,f2,f3,f4]
      simp only [Option.bind_some]
      cases b
      ·cases c
       ·exact ⟨rfl,rfl⟩
       ·exact ih2
      ·exact ih2
    ·refine ⟨i,fun k hk => ?_⟩
     rw [if_neg hb,if_neg hb,if_pos h2,if_pos h1,if_neg h45,if_neg h45];exact ⟨rfl,rfl⟩
  obtain ⟨r,hr⟩:=T (b || c)
  refine ⟨r,fun k hk => ?_⟩
  obtain ⟨k,rfl⟩:∃ k',k = k' + 2:=⟨k - 2,by omega⟩
  have hr:=hr k (by omega)
  simp only [ancepsref05_name.l0,token_name.l0,if_pos h1,if_pos h2,e1,e2,e3,e4,Option.bind_some]
  cases b
  ·cases c
   ·exact hr
   ·exact hr
  ·exact hr
theorem nameEq (s:ByteArray):∃ b,∀ k,100 ≤ k → ancepsref05_IsName.f k s = some b ∧ token_IsName.f k s = some b:=by
 unfold ancepsref05_IsName.f token_IsName.f
 by_cases h0:s.toList = ([]:List UInt8)
 ·exact ⟨false,fun k hk => ⟨by rw [if_pos h0],by rw [if_pos h0]⟩⟩
 ·by_cases h1:(s.size:Int) ≤ 20
  ·have hp:0 < s.size:=by
    rcases Nat.eq_zero_or_pos s.size with h | h
    ·exact absurd (List.length_eq_zero_iff.1 ((bl s).trans h)) h0
    ·exact h
   unfold ancepsref05_name.f token_name.f
   obtain ⟨b,e1,e2⟩:=smallEq (bt s 0)
   obtain ⟨r,hr⟩:=nameLoop s (by omega) (s.size - 1) 1 (by omega)
   refine ⟨(if b then r else 0) == (s.size:Int),fun k hk => ?_⟩
   rw [if_neg h0,if_neg h0,if_pos h1,if_pos h1,if_neg h0,if_neg h0,if_pos (by omega:0 < (s.size:Int)),if_pos (by omega:0 < (s.size:Int)),e1,e2]
   simp only [Option.bind_some]
   obtain ⟨k,rfl⟩:∃ k',k = k' + 1:=⟨k - 1,by omega⟩
   simp only [ancepsref05_name.j0,token_name.j0]
   cases b
   ·exact ⟨rfl,rfl⟩
   ·obtain ⟨e3,e4⟩:=hr k (by omega)
    rw [show ((1:Nat):Int) = 1 from rfl] at e3 e4
    exact ⟨by rw [if_neg (by decide),e3];rfl,by rw [if_neg (by decide),e4];rfl⟩
  ·refine ⟨false,fun k hk => ?_⟩
   rw [if_neg h0,if_neg h0,if_neg h1,if_neg h1];exact ⟨rfl,rfl⟩
def isName (s:ByteArray):Bool:=(ancepsref05_IsName.f 100 s).getD false
theorem nameR (s:ByteArray) (k:Nat) (hk:100 ≤ k):ancepsref05_IsName.f k s = some (isName s):=by
 obtain ⟨b,hb⟩:=nameEq s
 unfold isName
 rw [(hb k hk).1,(hb 100 (Nat.le_refl _)).1];rfl
theorem nameO (s:ByteArray) (k:Nat) (hk:100 ≤ k):token_IsName.f k s = some (isName s):=by
 obtain ⟨b,hb⟩:=nameEq s
 unfold isName
 rw [(hb k hk).2,(hb 100 (Nat.le_refl _)).1];rfl
def chk (lo:Int) (l:List Int):Nat → Nat → Bool
 | 0,_ => false
 | d + 1,i => decide (rd l (i:Int) < lo) || (decide (126 < rd l (i:Int)) || chk lo l d (i + 1))
theorem refText (s:ByteArray) (hs:s.size ≤ 200):∀ d i k,d + i = s.size → d + 1 ≤ k → ancepsref01_Valid.l0 k s (i:Int) = some (if chk 32 (bytesOf s) d i then 2 else 0)
 | 0,i,k + 1,h,hk => by simp only [ancepsref01_Valid.l0,chk];rw [if_neg (by omega)];rfl
 | d + 1,i,k + 1,h,hk => by
  have ih:=refText s hs d (i + 1) k (by omega) (by omega)
  have h1:(i:Int) < (s.size:Int):=by omega
  have h2:0 ≤ (i:Int):=by omega
  simp only [ancepsref01_Valid.l0,chk,if_pos h1,if_pos h2,ws1 i (by omega),ih,rd_bytesOf]
  by_cases c1:bt s (i:Int) < 32
  ·simp [c1]
  ·by_cases c2:bt s (i:Int) > 126
   ·simp [c1,c2]
   ·have c3:¬ 126 < bt s (i:Int):=c2
    simp [c1,c3]
theorem ourText (l:List Int) (hs:l.length ≤ 200):∀ d i k,d + i = l.length → d + 1 ≤ k → text_Valid.l0 k l (l.length:Int) (i:Int) = some (if chk 32 l d i then 2 else 0)
 | 0,i,k + 1,h,hk => by simp only [text_Valid.l0,chk];rw [if_neg (by omega)];rfl
 | d + 1,i,k + 1,h,hk => by
  have ih:=ourText l hs d (i + 1) k (by omega) (by omega)
  have h1:(i:Int) < (l.length:Int):=by omega
  have h2:0 ≤ (i:Int):=by omega
  simp only [text_Valid.l0,chk,if_pos h1,if_pos h2,ws1 i (by omega),ih]
  by_cases c1:rd l (i:Int) < 32
  ·simp [c1]
  ·by_cases c2:rd l (i:Int) > 126
   ·simp [c1,c2]
   ·have c3:¬ 126 < rd l (i:Int):=c2
    simp [c1,c3]
def textErr (s:ByteArray):Int:=if (s.size:Int) > 120 then 3 else if chk 32 (bytesOf s) s.size 0 then 2 else 0
theorem textR (s:ByteArray) (k:Nat) (hk:200 ≤ k):ancepsref01_Valid.f k s = some (textErr s):=by
 unfold ancepsref01_Valid.f textErr
 by_cases h:(s.size:Int) > 120
 ·rw [if_pos h,if_pos h]
 ·rw [if_neg h,if_neg h]
  exact refText s (by omega) s.size 0 k (by omega) (by omega)
theorem textO (s:ByteArray) (k:Nat) (hk:200 ≤ k):text_Valid.f k s = some (textErr s):=by
 unfold text_Valid.f textErr
 by_cases h:(s.size:Int) > 120
 ·rw [if_pos h,if_pos h]
 ·rw [if_neg h,if_neg h]
  unfold byt.f
  rw [if_pos (by omega),Option.bind_some]
  have hl:=bytesOf_length s
  have:=ourText (bytesOf s) (by omega) s.size 0 k (by omega) (by omega)
  exact this
theorem getD_nat (s:ByteArray) (i:Nat) (h:i < s.size):∃ c,s.toList[i]? = some c ∧ bt s (i:Int) = (c.toNat:Int):=by
 have hl:=bl s
 have hx:i < s.toList.length:=by omega
 refine ⟨s.toList[i],List.getElem?_eq_getElem hx,?_⟩
 unfold bt
 rw [dif_pos (by simpa using h)]
 have:s.toList[i] = s[i]:=by
  have e:=Lib.toList_data s
  have:s.toList[i]? = s.data.toList[i]?:=by rw [e]
  rw [List.getElem?_eq_getElem hx,List.getElem?_eq_getElem (by simpa using h)] at this
  exact Option.some.inj this
 simp [this]
theorem slash (c:UInt8):((c.toNat:Int) = 47) ↔ c = 47:=by
 constructor
 ·intro h
  have:c.toNat = (47:UInt8).toNat:=by have:(47:UInt8).toNat = 47:=rfl;omega
  exact UInt8.toNat_inj.1 this
 ·rintro rfl;rfl
theorem keyEmp (s:ByteArray) (hs:s.size ≤ 100):∀ d i k (b:Bool),d + i = s.size → d + 2 ≤ k → (b = true ↔ (i = 0 ∨ (0 < i ∧ bt s ((i - 1:Nat):Int) = 47))) →
  ancepsref50_Key.l1 k s (i:Int) = some (if PM.em b (s.toList.drop i) then 7 else 0)
 | 0,i,k + 2,b,h,hk,hb => by
  have hl:=bl s
  have e:s.toList.drop i = []:=List.drop_eq_nil_iff.2 (by omega)
  have h1:(i:Int) ≤ (s.size:Int):=by omega
  have h3:(i:Int) = (s.size:Int):=by omega
  have h5:¬ ((i + 1:Nat):Int) ≤ (s.size:Int):=by omega
  simp only [ancepsref50_Key.l1,if_pos h1,if_pos h3,e,PM.em,ws1 i (by omega),if_neg h5]
  by_cases c:i = 0
  ·have:b = true:=hb.2 (.inl c)
   rw [if_pos (by omega:(i:Int) = 0),this];rfl
  ·have h4:0 ≤ ((i - 1:Nat):Int):=by omega
   have h6:((i - 1:Nat):Int) < (s.size:Int):=by omega
   rw [if_neg (by omega:¬ (i:Int) = 0),wp1 i (by omega) (by omega),if_pos h4,if_pos h6]
   by_cases c2:bt s ((i - 1:Nat):Int) = 47
   ·have:b = true:=hb.2 (.inr ⟨by omega,c2⟩)
    rw [if_pos c2,this];rfl
   ·have:b = false:=by
     cases hq:b with
     | false => rfl
     | true =>
       rcases hb.1 hq with h | h
       ·exact absurd h c
       ·exact absurd h.2 c2
    rw [if_neg c2,this];rfl
 | d + 1,i,k + 1,b,h,hk,hb => by
  have hl:=bl s
  obtain ⟨c,hc,hbt⟩:=getD_nat s i (by omega)
  have e:s.toList.drop i = c :: s.toList.drop (i + 1):=by
   rw [List.drop_eq_getElem_cons (by omega)]
   rw [List.getElem?_eq_getElem (by omega)] at hc
   rw [Option.some.inj hc]
  have h1:(i:Int) ≤ (s.size:Int):=by omega
  have h2:(i:Int) < (s.size:Int):=by omega
  have h3:¬ (i:Int) = (s.size:Int):=by omega
  have h4:0 ≤ (i:Int):=by omega
  have ih:∀ b',(b' = true ↔ c = 47) → ancepsref50_Key.l1 k s ((i + 1:Nat):Int) = some (if PM.em b' (s.toList.drop (i + 1)) then 7 else 0):=fun b' hb' =>
   keyEmp s hs d (i + 1) k b' (by omega) (by omega) (by
    rw [hb',Nat.add_sub_cancel,hbt,slash]
    constructor
    ·intro h;exact .inr ⟨by omega,h⟩
    ·rintro (h | h)
     ·omega
     ·exact h.2)
  have ihT:c = 47 → ancepsref50_Key.l1 k s ((i + 1:Nat):Int) = some (if PM.em true (s.toList.drop (i + 1)) then 7 else 0):=fun h => ih true (by simp [h])
  have ihF:c ≠ 47 → ancepsref50_Key.l1 k s ((i + 1:Nat):Int) = some (if PM.em false (s.toList.drop (i + 1)) then 7 else 0):=fun h => ih false (by simp [h])
  simp only [ancepsref50_Key.l1,if_pos h1,if_pos h2,if_neg h3,if_pos h4,e,PM.em,ws1 i (by omega),hbt]
  have hq:((c.toNat:Int) = 47) ↔ c = 47:=slash c
  have main:b = true → (if (c.toNat:Int) = 47 then some 7 else ancepsref50_Key.l1 k s ((i + 1:Nat):Int)) = some (if (if c = 47 then (b || PM.em true (s.toList.drop (i + 1))) else PM.em false (s.toList.drop (i + 1))) then (7:Int) else 0):=by
   intro hbt
   by_cases c1:c = 47
   ·rw [if_pos (hq.2 c1),if_pos c1,hbt];rfl
   ·rw [if_neg (fun h => c1 (hq.1 h)),if_neg c1,ihF c1]
  by_cases c0:i = 0
  ·rw [if_pos (by omega:(i:Int) = 0)]
   exact main (hb.2 (.inl c0))
  ·have h5:0 ≤ ((i - 1:Nat):Int):=by omega
   have h6:((i - 1:Nat):Int) < (s.size:Int):=by omega
   rw [if_neg (by omega:¬ (i:Int) = 0),wp1 i (by omega) (by omega),if_pos h5,if_pos h6]
   by_cases c2:bt s ((i - 1:Nat):Int) = 47
   ·rw [if_pos c2]
    exact main (hb.2 (.inr ⟨by omega,c2⟩))
   ·have hf:b = false:=by
     cases hq:b with
     | false => rfl
     | true =>
       rcases hb.1 hq with h | h
       ·exact absurd h c0
       ·exact absurd h.2 c2
    rw [if_neg c2,hf]
    by_cases c1:c = 47
    ·rw [if_pos c1,Bool.false_or,ihT c1]
    ·rw [if_neg c1,ihF c1]
theorem refKey (s:ByteArray) (hs:s.size ≤ 100):∀ d i k,d + i = s.size → d + 300 ≤ k → ancepsref50_Key.l0 k s (i:Int) = some (if chk 33 (bytesOf s) d i then 2 else if PM.em true s.toList then 7 else 0)
 | 0,i,k + 1,h,hk => by
  simp only [ancepsref50_Key.l0,chk];rw [if_neg (by omega)]
  have:=keyEmp s hs s.size 0 k true (by omega) (by omega) (by simp)
  rw [List.drop_zero] at this
  exact this
 | d + 1,i,k + 1,h,hk => by
  have ih:=refKey s hs d (i + 1) k (by omega) (by omega)
  have h1:(i:Int) < (s.size:Int):=by omega
  have h2:0 ≤ (i:Int):=by omega
  simp only [ancepsref50_Key.l0,chk,if_pos h1,if_pos h2,ws1 i (by omega),ih,rd_bytesOf]
  by_cases c1:bt s (i:Int) < 33
  ·simp [c1]
  ·by_cases c2:bt s (i:Int) > 126
   ·simp [c1,c2]
   ·have c3:¬ 126 < bt s (i:Int):=c2
    simp [c1,c3]
def keyErr (s:ByteArray):Int:=if (s.size:Int) > 60 then 3 else if chk 33 (bytesOf s) s.size 0 then 2 else if PM.em true s.toList then 7 else 0
theorem keyR (s:ByteArray) (k:Nat) (hk:1000 ≤ k):ancepsref50_Key.f k s = some (keyErr s):=by
 unfold ancepsref50_Key.f keyErr
 by_cases h:(s.size:Int) > 60
 ·rw [if_pos h,if_pos h]
 ·rw [if_neg h,if_neg h]
  exact refKey s (by omega) s.size 0 k (by omega) (by omega)
theorem indexLoop (l:List ByteArray) (x:ByteArray) (hl:l.length ≤ 10000):∀ d i k,d + i = l.length → d + 1 ≤ k →
  ∃ r,slices_Index_string_string.l0 k l x (l.length:Int) (i:Int) = some r ∧ (r ≥ 0 ↔ ∃ y ∈ l.drop i,y.toList = x.toList)
 | 0,i,k + 1,h,hk => by
  refine ⟨-1,by simp only [slices_Index_string_string.l0];rw [if_neg (by omega)],?_⟩
  rw [List.drop_eq_nil_iff.2 (by omega)]
  simp
 | d + 1,i,k + 1,h,hk => by
  obtain ⟨r,e,hr⟩:=indexLoop l x hl d (i + 1) k (by omega) (by omega)
  have h1:(i:Int) < (l.length:Int):=by omega
  have h2:0 ≤ (i:Int):=by omega
  have hi:i < l.length:=by omega
  have hd:l.drop i = l[i] :: l.drop (i + 1):=List.drop_eq_getElem_cons hi
  have hx:rdOf ByteArray.empty l (i:Int) = l[i]:=by simp [rdOf,List.getD_eq_getElem?_getD,hi]
  simp only [slices_Index_string_string.l0,if_pos h1,if_pos h2,ws1 i (by omega),e,hx]
  by_cases c:x.toList = l[i].toList
  ·exact ⟨_,by rw [if_pos c],⟨fun _ => ⟨_,by rw [hd];exact List.mem_cons_self ..,c.symm⟩,fun _ => h2⟩⟩
  ·refine ⟨r,by rw [if_neg c],?_⟩
   rw [hr,hd]
   constructor
   ·rintro ⟨y,hy,e⟩;exact ⟨y,List.mem_cons_of_mem _ hy,e⟩
   ·rintro ⟨y,hy,e⟩
    rcases List.mem_cons.1 hy with rfl | hy
    ·exact absurd e.symm c
    ·exact ⟨y,hy,e⟩
theorem splitEmp (s:ByteArray) (hs:s.size ≤ 100) (k:Nat) (hk:300 ≤ k):((strings_Split.f k s (⟨#[47]⟩:ByteArray)).bind fun t => slices_Contains_string_string.f k t (⟨#[]⟩:ByteArray)) = some (PM.em true s.toList):=by
 have e1:strings_Split.f k s (⟨#[47]⟩:ByteArray) = some (Lib.splitB ⟨#[47]⟩ 0 (Lib.countB s ⟨#[47]⟩) s):=by
  unfold strings_Split.f
  rw [if_pos (by omega)]
  rfl
 have hcount:Lib.countB s ⟨#[47]⟩ ≤ s.size:=Lib.countB_le ⟨#[47]⟩ (by decide) _ s (Nat.le_refl _)
 have hlen:=Lib.splitB_length_le (⟨#[47]⟩:ByteArray) 0 (Lib.countB s ⟨#[47]⟩) s
 have hm:=Lib.splitB_data (⟨#[47]⟩:ByteArray) 0 (Lib.countB s ⟨#[47]⟩) s
 rw [e1,Option.bind_some]
 unfold slices_Contains_string_string.f slices_Index_string_string.f
 generalize hL:Lib.splitB (⟨#[47]⟩:ByteArray) 0 (Lib.countB s ⟨#[47]⟩) s = L at *
 obtain ⟨r,e,hr⟩:=indexLoop L (⟨#[]⟩:ByteArray) (by omega) L.length 0 k (by omega) (by omega)
 rw [show ((0:Nat):Int) = 0 from rfl] at e
 rw [List.drop_zero] at hr
 rw [e,Option.bind_some]
 congr 1
 rw [Bool.eq_iff_iff,decide_eq_true_iff,hr]
 have hp:=PM.parts_empty s.size s.toList (by rw [bl];exact Nat.le_refl _)
 rw [← hp]
 have hc:Lib.countB s ⟨#[47]⟩ = Lib.count s.toList [47]:=by rw [Lib.toList_data,Lib.countB]
 rw [hc] at hm
 have hd:s.data.toList = s.toList:=(Lib.toList_data s).symm
 rw [hd] at hm
 rw [show ([47]:List UInt8) = (⟨#[47]⟩:ByteArray).data.toList from rfl,← hm,List.mem_map]
 have hn:(⟨#[]⟩:ByteArray).toList = []:=by rw [Lib.toList_data]
 constructor
 ·rintro ⟨y,hy,e⟩;exact ⟨y,hy,by rw [← Lib.toList_data,e,hn]⟩
 ·rintro ⟨y,hy,e⟩;exact ⟨y,hy,by rw [Lib.toList_data,e,hn]⟩
theorem ourKey (s:ByteArray) (hs:s.size ≤ 100):∀ d i k,d + i = s.size → d + 301 ≤ k → tally_wrong.l0 k s (bytesOf s) ((bytesOf s).length:Int) (i:Int) = some (if chk 33 (bytesOf s) d i then 2 else if PM.em true s.toList then 7 else 0)
 | 0,i,k + 1,h,hk => by
  have hl:=bytesOf_length s
  simp only [tally_wrong.l0,chk];rw [if_neg (by omega)]
  have h:=splitEmp s hs k (by omega)
  rw [Option.bind_eq_some_iff] at h
  obtain ⟨t,h1,h2⟩:=h
  rw [h1,Option.bind_some,h2,Option.bind_some]
  cases PM.em true s.toList <;> rfl
 | d + 1,i,k + 1,h,hk => by
  have hl:=bytesOf_length s
  have ih:=ourKey s hs d (i + 1) k (by omega) (by omega)
  have h1:(i:Int) < ((bytesOf s).length:Int):=by omega
  have h2:0 ≤ (i:Int):=by omega
  simp only [tally_wrong.l0,chk,if_pos h1,if_pos h2,ws1 i (by omega),ih]
  by_cases c1:rd (bytesOf s) (i:Int) < 33
  ·simp [c1]
  ·by_cases c2:rd (bytesOf s) (i:Int) > 126
   ·simp [c1,c2]
   ·have c3:¬ 126 < rd (bytesOf s) (i:Int):=c2
    simp [c1,c3]
theorem keyO (s:ByteArray) (k:Nat) (hk:1000 ≤ k):tally_wrong.f k s = some (keyErr s):=by
 unfold tally_wrong.f keyErr
 by_cases h:(s.size:Int) > 60
 ·rw [if_pos h,if_pos h]
 ·rw [if_neg h,if_neg h]
  unfold byt.f
  rw [if_pos (by omega),Option.bind_some]
  exact ourKey s (by omega) s.size 0 k (by omega) (by omega)
abbrev keyAt (l:List ByteArray) (i:Nat):ByteArray:=rdOf ByteArray.empty l (i:Int)
def entErr (l:List ByteArray) (c:List Int) (i:Nat):Int:=
 if keyErr (keyAt l i) = 0 then (if 0 < i ∧ Op.bytesLess (keyAt l (i - 1)).toList (keyAt l i).toList = false then 18 else if rd c (i:Int) < 1 ∨ rd c (i:Int) > 1000000 then 6 else 0) else keyErr (keyAt l i)
theorem entO (l:List ByteArray) (c:List Int) (i k:Nat) (hl:l.length ≤ 3000) (hc:l.length = c.length) (hi:i < l.length) (hk:1000 ≤ k):tally_entry.f k l c (i:Int) = some (entErr l c i):=by
 obtain ⟨k,rfl⟩:∃ k',k = k' + 1:=⟨k - 1,by omega⟩
 have h1:(i:Int) < (l.length:Int):=by omega
 have h2:0 ≤ (i:Int):=by omega
 have h3:(i:Int) < (c.length:Int):=by omega
 have J:∀ b:Bool,tally_entry.j0 (k + 1) (i:Int) b l c = some (if b = true then 18 else if rd c (i:Int) < 1 ∨ rd c (i:Int) > 1000000 then 6 else 0):=by
  intro b
  simp only [tally_entry.j0,if_pos h2,if_pos h3]
  cases b
  ·by_cases c1:rd c (i:Int) < 1
   ·simp [c1]
   ·by_cases c2:rd c (i:Int) > 1000000
    ·simp [c1,c2]
    ·simp [c1,c2]
  ·rfl
 unfold tally_entry.f entErr
 rw [if_pos h2,if_pos h1,keyO _ _ hk,Option.bind_some]
 by_cases e:keyErr (keyAt l i) = 0
 ·rw [if_pos e,if_pos e]
  by_cases e2:(i:Int) > 0
  ·have h4:0 ≤ ((i - 1:Nat):Int):=by omega
   have h5:((i - 1:Nat):Int) < (l.length:Int):=by omega
   rw [if_pos e2,wp1 i (by omega) (by omega),if_pos h4,if_pos h5,J]
   have h6:0 < i:=by omega
   generalize Op.bytesLess (keyAt l (i - 1)).toList (keyAt l i).toList = q
   cases q <;> simp [h6]
  ·have h6:¬ 0 < i:=by omega
   rw [if_neg e2,J];simp [h6]
 ·rw [if_neg e,if_neg e]
def talErrL (l:List ByteArray) (c:List Int):Nat → Nat → Int
 | 0,_ => 0
 | d + 1,i => if entErr l c i = 0 then talErrL l c d (i + 1) else entErr l c i
def talErr (l:List ByteArray) (c:List Int):Int:=if (l.length:Int) = (c.length:Int) then (if (l.length:Int) > 2000 then 3 else talErrL l c l.length 0) else 1
theorem talO_l (l:List ByteArray) (c:List Int) (hl:l.length ≤ 3000) (hc:l.length = c.length):∀ d i k,d + i = l.length → d + 1000 ≤ k → tally_Valid.l0 k (l.length:Int) (i:Int) l c = some (talErrL l c d i)
 | 0,i,k,h,hk => by obtain ⟨k,rfl⟩:∃ k',k = k' + 1:=⟨k - 1,by omega⟩;simp only [tally_Valid.l0,talErrL];rw [if_neg (by omega)]
 | d + 1,i,k,h,hk => by
  obtain ⟨k,rfl⟩:∃ k',k = k' + 1:=⟨k - 1,by omega⟩
  have ih:=talO_l l c hl hc d (i + 1) k (by omega) (by omega)
  have h1:(i:Int) < (l.length:Int):=by omega
  simp only [tally_Valid.l0,talErrL,if_pos h1,ws1 i (by omega),ih,entO l c i k hl hc (by omega) (by omega),Option.bind_some]
  by_cases e:entErr l c i = 0
  ·rw [if_pos e,if_pos e]
  ·rw [if_neg e,if_neg e]
theorem talO (l:List ByteArray) (c:List Int) (k:Nat) (hk:5000 ≤ k):tally_Valid.f k l c = some (talErr l c):=by
 unfold tally_Valid.f talErr
 by_cases e:(l.length:Int) = (c.length:Int)
 ·rw [if_pos e,if_pos e]
  by_cases e2:(l.length:Int) > 2000
  ·rw [if_pos e2,if_pos e2]
  ·rw [if_neg e2,if_neg e2]
   exact talO_l l c (by omega) (by omega) l.length 0 k (by omega) (by omega)
 ·rw [if_neg e,if_neg e]
theorem talR_l (l:List ByteArray) (c:List Int) (hl:l.length ≤ 3000) (hc:l.length = c.length):∀ d i k,d + i = l.length → 2 * d + 1000 ≤ k → ∃ n,ancepsref50_check.l0 k (i:Int) l c = some (n,talErrL l c d i)
 | 0,i,k,h,hk => by obtain ⟨k,rfl⟩:∃ k',k = k' + 1:=⟨k - 1,by omega⟩;simp only [ancepsref50_check.l0,talErrL];rw [if_neg (by omega)];exact ⟨_,rfl⟩
 | d + 1,i,k,h,hk => by
  obtain ⟨k,rfl⟩:∃ k',k = k' + 2:=⟨k - 2,by omega⟩
  obtain ⟨n,ih⟩:=talR_l l c hl hc d (i + 1) k (by omega) (by omega)
  have h1:(i:Int) < (l.length:Int):=by omega
  have h2:0 ≤ (i:Int):=by omega
  have h3:(i:Int) < (c.length:Int):=by omega
  have J:∀ b:Bool,∃ n,ancepsref50_check.j1 (k + 1) (i:Int) b l c = some (n,if b = true then 18 else if rd c (i:Int) < 1 ∨ rd c (i:Int) > 1000000 then 6 else talErrL l c d (i + 1)):=by
   intro b
   simp only [ancepsref50_check.j1,if_pos h2,if_pos h3,ws1 i (by omega),ih]
   cases b
   ·by_cases c1:rd c (i:Int) < 1
    ·exact ⟨_,by simp [c1];rfl⟩
    ·by_cases c2:rd c (i:Int) > 1000000
     ·exact ⟨_,by simp [c1,c2];rfl⟩
     ·exact ⟨_,by simp [c1,c2];rfl⟩
   ·exact ⟨_,rfl⟩
  simp only [ancepsref50_check.l0,talErrL,if_pos h1,if_pos h2,keyR _ _ (by omega:1000 ≤ k + 1),Option.bind_some]
  unfold entErr
  by_cases e:keyErr (keyAt l i) = 0
  ·rw [if_pos e,if_pos e]
   by_cases e2:(i:Int) > 0
   ·have h4:0 ≤ ((i - 1:Nat):Int):=by omega
    have h5:((i - 1:Nat):Int) < (l.length:Int):=by omega
    rw [if_pos e2,wp1 i (by omega) (by omega),if_pos h4,if_pos h5]
    have h6:0 < i:=by omega
    obtain ⟨n,hn⟩:=J (!(Op.bytesLess (keyAt l (i - 1)).toList (keyAt l i).toList))
    refine ⟨n,hn.trans ?_⟩
    generalize Op.bytesLess (keyAt l (i - 1)).toList (keyAt l i).toList = q
    by_cases c1:rd c (i:Int) < 1 ∨ rd c (i:Int) > 1000000
    ·cases q <;> simp [h6,c1]
    ·cases q <;> simp [h6,c1]
   ·have h6:¬ 0 < i:=by omega
    rw [if_neg e2]
    obtain ⟨n,hn⟩:=J false
    refine ⟨n,hn.trans ?_⟩
    by_cases c1:rd c (i:Int) < 1 ∨ rd c (i:Int) > 1000000
    ·simp [h6,c1]
    ·simp [h6,c1]
  ·rw [if_neg e,if_neg e,if_neg e];exact ⟨_,rfl⟩
theorem talR (l:List ByteArray) (c:List Int) (k:Nat) (hk:8000 ≤ k):ancepsref50_Valid.f k l c = some (talErr l c):=by
 unfold ancepsref50_Valid.f ancepsref50_check.f talErr
 by_cases e:(l.length:Int) = (c.length:Int)
 ·rw [if_pos e,if_pos e]
  by_cases e2:(l.length:Int) > 2000
  ·rw [if_pos e2,if_pos e2];rfl
  ·rw [if_neg e2,if_neg e2]
   obtain ⟨n,hn⟩:=talR_l l c (by omega) (by omega) l.length 0 k (by omega) (by omega)
   rw [show ((0:Nat):Int) = 0 from rfl] at hn
   rw [hn];rfl
 ·rw [if_neg e,if_neg e];rfl
theorem talErrL_zero (l:List ByteArray) (c:List Int):∀ d i,talErrL l c d i = 0 → ∀ j,i ≤ j → j < i + d → entErr l c j = 0
 | 0,i,h,j,h1,h2 => by omega
 | d + 1,i,h,j,h1,h2 => by
  rw [talErrL] at h
  by_cases e:entErr l c i = 0
  ·rw [if_pos e] at h
   by_cases e2:j = i
   ·subst e2;exact e
   ·exact talErrL_zero l c d (i + 1) h j (by omega) (by omega)
  ·rw [if_neg e] at h;exact absurd h e
structure TalOK (l:List ByteArray) (c:List Int):Prop where
 len:l.length = c.length
 few:l.length ≤ 2000
 full:∀ i,i < l.length → (keyAt l i).toList ≠ []
 asc:∀ i,0 < i → i < l.length → (keyAt l (i - 1)).toList < (keyAt l i).toList
 one:∀ i:Nat,i < l.length → 1 ≤ rd c (i:Int) ∧ rd c (i:Int) ≤ 1000000
theorem bl_lt':∀ (x y:List UInt8),Op.bytesLess x y = decide (x < y)
 | x,[] => by cases x <;> simp [Op.bytesLess]
 | [],_ :: _ => by simp [Op.bytesLess]
 | a :: x,b :: y => by
  rw [Op.bytesLess,bl_lt' x y]
  by_cases h:a < b
  ·have:a :: x < b :: y:=List.cons_lt_cons_iff.2 (.inl h)
   simp [h,this]
  ·by_cases e:a = b
   ·subst e
    simp [List.cons_lt_cons_iff,h]
   ·have:¬ a :: x < b :: y:=fun c => by
     rcases List.cons_lt_cons_iff.1 c with c | c
     ·exact h c
     ·exact e c.1
    simp [h,e,this]
theorem talErr_zero (l:List ByteArray) (c:List Int) (h:talErr l c = 0):TalOK l c:=by
 unfold talErr at h
 by_cases e:(l.length:Int) = (c.length:Int)
 ·rw [if_pos e] at h
  by_cases e2:(l.length:Int) > 2000
  ·rw [if_pos e2] at h;cases h
  ·rw [if_neg e2] at h
   have hz:∀ i,i < l.length → entErr l c i = 0:=fun i hi => talErrL_zero l c l.length 0 h i (by omega) (by omega)
   have hz':∀ i,i < l.length → keyErr (keyAt l i) = 0 ∧ ¬ (0 < i ∧ Op.bytesLess (keyAt l (i - 1)).toList (keyAt l i).toList = false) ∧ ¬ (rd c (i:Int) < 1 ∨ rd c (i:Int) > 1000000):=by
    intro i hi
    have h1:=hz i hi
    unfold entErr at h1
    by_cases a:keyErr (keyAt l i) = 0
    ·rw [if_pos a] at h1
     by_cases b:0 < i ∧ Op.bytesLess (keyAt l (i - 1)).toList (keyAt l i).toList = false
     ·rw [if_pos b] at h1;cases h1
     ·rw [if_neg b] at h1
      by_cases d:rd c (i:Int) < 1 ∨ rd c (i:Int) > 1000000
      ·rw [if_pos d] at h1;cases h1
      ·exact ⟨a,b,d⟩
    ·rw [if_neg a] at h1;exact absurd h1 a
   refine ⟨by omega,by omega,fun i hi => ?_,fun i h0 hi => ?_,fun i hi => ?_⟩
   ·intro he
    have h1:=(hz' i hi).1
    unfold keyErr at h1
    rw [he] at h1
    by_cases a:((keyAt l i).size:Int) > 60
    ·rw [if_pos a] at h1;cases h1
    ·rw [if_neg a] at h1
     by_cases b:chk 33 (bytesOf (keyAt l i)) (keyAt l i).size 0 = true
     ·rw [if_pos b] at h1;cases h1
     ·rw [if_neg b] at h1;simp [PM.em] at h1
   ·have h1:=(hz' i hi).2.1
    rw [bl_lt'] at h1
    by_cases a:(keyAt l (i - 1)).toList < (keyAt l i).toList
    ·exact a
    ·exact absurd ⟨h0,decide_eq_false a⟩ h1
   ·have h1:=(hz' i hi).2.2
    omega
 ·rw [if_neg e] at h;cases h
def proErrL (ls:List S72) (t:Int):Nat → Nat → Int
 | 0,_ => t
 | d + 1,i => if textErr (rd_T72 ls (i:Int)).f0 = 0 then (if isName (rd_T72 ls (i:Int)).f1 = true then proErrL ls t d (i + 1) else 2) else textErr (rd_T72 ls (i:Int)).f0
def proErr (nm:ByteArray) (ls:List S72) (l:List ByteArray) (c:List Int):Int:=
 if isName nm = true then (if (ls.length:Int) > 200 then 3 else proErrL ls (talErr l c) ls.length 0) else 2
theorem proR_l (nm:ByteArray) (ls:List S72) (l:List ByteArray) (c:List Int) (hl:ls.length ≤ 200):∀ d i k,d + i = ls.length → d + 9000 ≤ k → ancepsref53_Valid.l0 k (i:Int) nm ls l c = some (proErrL ls (talErr l c) d i)
 | 0,i,k,h,hk => by
  obtain ⟨k,rfl⟩:∃ k',k = k' + 1:=⟨k - 1,by omega⟩
  simp only [ancepsref53_Valid.l0,proErrL];rw [if_neg (by omega),talR l c k (by omega)];rfl
 | d + 1,i,k,h,hk => by
  obtain ⟨k,rfl⟩:∃ k',k = k' + 1:=⟨k - 1,by omega⟩
  have ih:=proR_l nm ls l c hl d (i + 1) k (by omega) (by omega)
  have h1:(i:Int) < (ls.length:Int):=by omega
  have h2:0 ≤ (i:Int):=by omega
  simp only [ancepsref53_Valid.l0,proErrL,if_pos h1,if_pos h2,ws1 i (by omega),ih,textR _ k (by omega),nameR _ k (by omega),Option.bind_some]
  by_cases e:textErr (rd_T72 ls (i:Int)).f0 = 0
  ·rw [if_pos e,if_pos e]
   by_cases e2:isName (rd_T72 ls (i:Int)).f1 = true
   ·rw [if_pos e2,if_pos e2]
   ·rw [if_neg e2,if_neg e2]
  ·rw [if_neg e,if_neg e]
theorem proR (nm:ByteArray) (ls:List S72) (l:List ByteArray) (c:List Int) (k:Nat) (hk:10000 ≤ k):ancepsref53_Valid.f k nm ls l c = some (proErr nm ls l c):=by
 unfold ancepsref53_Valid.f proErr
 rw [nameR _ k (by omega),Option.bind_some]
 by_cases e:isName nm = true
 ·rw [if_pos e,if_pos e]
  by_cases e2:(ls.length:Int) > 200
  ·rw [if_pos e2,if_pos e2]
  ·rw [if_neg e2,if_neg e2]
   exact proR_l nm ls l c (by omega) ls.length 0 k (by omega) (by omega)
 ·rw [if_neg e,if_neg e]
theorem proO_l (nm:ByteArray) (ls:List S72) (l:List ByteArray) (c:List Int) (hl:ls.length ≤ 200):∀ d i k,d + i = ls.length → d + 9000 ≤ k → profile_valid.l0 k ls (ls.length:Int) (i:Int) nm ls l c = some (proErrL ls (talErr l c) d i)
 | 0,i,k,h,hk => by
  obtain ⟨k,rfl⟩:∃ k',k = k' + 1:=⟨k - 1,by omega⟩
  simp only [profile_valid.l0,proErrL];rw [if_neg (by omega),talO l c k (by omega)];rfl
 | d + 1,i,k,h,hk => by
  obtain ⟨k,rfl⟩:∃ k',k = k' + 1:=⟨k - 1,by omega⟩
  have ih:=proO_l nm ls l c hl d (i + 1) k (by omega) (by omega)
  have h1:(i:Int) < (ls.length:Int):=by omega
  have h2:0 ≤ (i:Int):=by omega
  simp only [profile_valid.l0,proErrL,if_pos h1,if_pos h2,ws1 i (by omega),ih,textO _ k (by omega),nameO _ k (by omega),Option.bind_some]
  by_cases e:textErr (rd_T72 ls (i:Int)).f0 = 0
  ·rw [if_pos e,if_pos e]
   by_cases e2:isName (rd_T72 ls (i:Int)).f1 = true
   ·rw [if_pos e2,if_pos e2]
   ·rw [if_neg e2,if_neg e2]
  ·rw [if_neg e,if_neg e]
theorem proO (nm:ByteArray) (ls:List S72) (l:List ByteArray) (c:List Int) (k:Nat) (hk:10000 ≤ k):profile_valid.f k nm ls l c = some (proErr nm ls l c):=by
 unfold profile_valid.f proErr
 rw [nameO _ k (by omega),Option.bind_some]
 by_cases e:isName nm = true
 ·rw [if_pos e,if_pos e]
  by_cases e2:(ls.length:Int) > 200
  ·rw [if_pos e2,if_pos e2]
  ·rw [if_neg e2,if_neg e2]
   exact proO_l nm ls l c (by omega) ls.length 0 k (by omega) (by omega)
 ·rw [if_neg e,if_neg e]
theorem proErrL_zero (ls:List S72) (t:Int):∀ d i,proErrL ls t d i = 0 → t = 0
 | 0,i,h => h
 | d + 1,i,h => by
  rw [proErrL] at h
  by_cases e:textErr (rd_T72 ls (i:Int)).f0 = 0
  ·rw [if_pos e] at h
   by_cases e2:isName (rd_T72 ls (i:Int)).f1 = true
   ·rw [if_pos e2] at h;exact proErrL_zero ls t d (i + 1) h
   ·rw [if_neg e2] at h;cases h
  ·rw [if_neg e] at h;exact absurd h e
theorem proErr_zero {nm:ByteArray} {ls:List S72} {l:List ByteArray} {c:List Int} (h:proErr nm ls l c = 0):ls.length ≤ 200 ∧ talErr l c = 0:=by
 unfold proErr at h
 by_cases e:isName nm = true
 ·rw [if_pos e] at h
  by_cases e2:(ls.length:Int) > 200
  ·rw [if_pos e2] at h;cases h
  ·rw [if_neg e2] at h
   exact ⟨by omega,proErrL_zero _ _ _ _ h⟩
 ·rw [if_neg e] at h;cases h
def pz (l:List ByteArray) (c:List Int):PM.P:=(l.map ByteArray.toList).zip c
theorem pz_len {l:List ByteArray} {c:List Int} (h:l.length = c.length):(pz l c).length = l.length:=by
 unfold pz;rw [List.length_zip,List.length_map,h,Nat.min_self]
theorem pz_at {l:List ByteArray} {c:List Int} (h:l.length = c.length) (i:Nat) (hi:i < l.length):(pz l c).drop i = ((keyAt l i).toList,rd c (i:Int)) :: (pz l c).drop (i + 1):=by
 have hl:i < (pz l c).length:=by rw [pz_len h];exact hi
 rw [List.drop_eq_getElem_cons hl]
 congr 1
 have h2:i < c.length:=by omega
 simp [pz,keyAt,rdOf,rd,List.getD_eq_getElem?_getD,hi,h2]
theorem pz_end {l:List ByteArray} {c:List Int} (h:l.length = c.length) (i:Nat) (hi:l.length ≤ i):(pz l c).drop i = []:=List.drop_eq_nil_iff.2 (by rw [pz_len h];exact hi)
theorem asc_drop:∀ (t:PM.P) (i:Nat),PM.Asc t → PM.Asc (t.drop i)
 | [],i,h => by rw [List.drop_nil];trivial
 | _ :: _,0,h => h
 | (k,n) :: t,i + 1,h => asc_drop t i h.2
theorem asc_lt {l:List ByteArray} {c:List Int} (h:l.length = c.length) (ha:PM.Asc (pz l c)) (i j:Nat) (hij:i < j) (hj:j < l.length):(keyAt l i).toList < (keyAt l j).toList:=by
 have h1:=asc_drop _ i ha
 rw [pz_at h i (by omega)] at h1
 refine h1.1 ((keyAt l j).toList,rd c (j:Int)) ?_
 have h2:=pz_at h j hj
 have h3:(pz l c).drop j = ((pz l c).drop (i + 1)).drop (j - (i + 1)):=by rw [List.drop_drop];congr 1;omega
 have h4:((keyAt l j).toList,rd c (j:Int)) ∈ (pz l c).drop j:=by rw [h2];exact List.mem_cons_self ..
 rw [h3] at h4
 exact List.mem_of_mem_drop h4
theorem asc_cons (k:PM.K) (n:Int):∀ (t:PM.P),PM.Asc t → (∀ y ∈ t.head?,k < y.1) → PM.Asc ((k,n) :: t)
 | [],_,_ => ⟨fun _ h => (by cases h),trivial⟩
 | (k',n') :: t,h,hk => by
  have h1:k < k':=hk (k',n') rfl
  refine ⟨fun x hx => ?_,h⟩
  rcases List.mem_cons.1 hx with rfl | hx
  ·exact h1
  ·exact PM.lt_trans h1 (h.1 x hx)
theorem tal_asc {l:List ByteArray} {c:List Int} (h:TalOK l c):∀ d i,d + i = l.length → PM.Asc ((pz l c).drop i)
 | 0,i,hd => by rw [pz_end h.len i (by omega)];trivial
 | d + 1,i,hd => by
  have ih:=tal_asc h d (i + 1) (by omega)
  rw [pz_at h.len i (by omega)]
  refine asc_cons _ _ _ ih (fun y hy => ?_)
  by_cases e:i + 1 < l.length
  ·rw [pz_at h.len (i + 1) e,List.head?_cons] at hy
   cases hy
   exact h.asc (i + 1) (by omega) e
  ·rw [pz_end h.len (i + 1) (by omega)] at hy;cases hy
theorem tal_mem {l:List ByteArray} {c:List Int} (h:TalOK l c):∀ x ∈ pz l c,1 ≤ x.2 ∧ x.2 ≤ 1000000:=by
 intro x hx
 obtain ⟨i,hi,e⟩:=List.getElem_of_mem hx
 have hi':i < l.length:=by rw [pz_len h.len] at hi;exact hi
 have h1:=pz_at h.len i hi'
 rw [List.drop_eq_getElem_cons hi,e] at h1
 injection h1 with h2
 rw [h2]
 exact h.one i hi'
theorem get_l (l:List ByteArray) (c:List Int) (x:ByteArray) (h:l.length = c.length) (hl:l.length ≤ 5000):∀ d i k,d + i = l.length → d + 1 ≤ k → ancepsref50_Get.l0 k x (i:Int) l c = some ((PM.get ((pz l c).drop i) x.toList).getD 0)
 | 0,i,k,hd,hk => by
  obtain ⟨k,rfl⟩:∃ k',k = k' + 1:=⟨k - 1,by omega⟩
  simp only [ancepsref50_Get.l0];rw [if_neg (by omega),pz_end h i (by omega)];rfl
 | d + 1,i,k,hd,hk => by
  obtain ⟨k,rfl⟩:∃ k',k = k' + 1:=⟨k - 1,by omega⟩
  have ih:=get_l l c x h hl d (i + 1) k (by omega) (by omega)
  have h1:(i:Int) < (l.length:Int):=by omega
  have h2:0 ≤ (i:Int):=by omega
  have h3:(i:Int) < (c.length:Int):=by omega
  simp only [ancepsref50_Get.l0,if_pos h1,if_pos h2,if_pos h3,ws1 i (by omega),ih,pz_at h i (by omega),PM.get]
  by_cases e:(keyAt l i).toList = x.toList
  ·rw [if_pos e,if_pos e];rfl
  ·rw [if_neg e,if_neg e]
theorem get_f (l:List ByteArray) (c:List Int) (x:ByteArray) (h:l.length = c.length) (hl:l.length ≤ 5000) (k:Nat) (hk:5001 ≤ k):ancepsref50_Get.f k l c x = some ((PM.get (pz l c) x.toList).getD 0):=
 get_l l c x h hl l.length 0 k (by omega) (by omega)
theorem pz_fst {l:List ByteArray} {c:List Int} (h:l.length = c.length):(pz l c).map (·.1) = l.map ByteArray.toList:=by
 unfold pz
 rw [show (fun x:PM.K × Int => x.1) = Prod.fst from rfl,List.map_fst_zip (by rw [List.length_map];omega)]
theorem keyAt_map {o o':List ByteArray} (h:o.map ByteArray.toList = o'.map ByteArray.toList) (i:Nat) (hi:i < o.length):(keyAt o i).toList = (keyAt o' i).toList:=by
 have hl:o.length = o'.length:=by have:=congrArg List.length h;simpa using this
 have h2:i < o'.length:=by omega
 have:=congrArg (·[i]?) h
 simp only [List.getElem?_map,List.getElem?_eq_getElem hi,List.getElem?_eq_getElem h2,Option.map_some,Option.some.injEq] at this
 simp [keyAt,rdOf,List.getD_eq_getElem?_getD,hi,h2,this]
theorem same1 (l l':List ByteArray) (c:List Int) (hc:c.length ≤ 5000):∀ d i k,d + i = c.length → d + 1 ≤ k → ancepsref50_Same.l1 k (i:Int) l c l' c = some true
 | 0,i,k,hd,hk => by
  obtain ⟨k,rfl⟩:∃ k',k = k' + 1:=⟨k - 1,by omega⟩
  simp only [ancepsref50_Same.l1];rw [if_neg (by omega)]
 | d + 1,i,k,hd,hk => by
  obtain ⟨k,rfl⟩:∃ k',k = k' + 1:=⟨k - 1,by omega⟩
  have ih:=same1 l l' c hc d (i + 1) k (by omega) (by omega)
  have h1:(i:Int) < (c.length:Int):=by omega
  have h2:0 ≤ (i:Int):=by omega
  simp only [ancepsref50_Same.l1,ws1 i (by omega)]
  rw [if_pos h1,if_pos h2,if_pos h1,if_pos trivial,ih]
theorem same0 (l l':List ByteArray) (c:List Int) (hc:c.length ≤ 5000) (hl:l.length ≤ 5000) (h:l.map ByteArray.toList = l'.map ByteArray.toList):∀ d i k,d + i = l.length → d + 5100 ≤ k → ancepsref50_Same.l0 k (i:Int) l c l' c = some true
 | 0,i,k,hd,hk => by
  obtain ⟨k,rfl⟩:∃ k',k = k' + 1:=⟨k - 1,by omega⟩
  simp only [ancepsref50_Same.l0];rw [if_neg (by omega)]
  exact same1 l l' c hc c.length 0 k (by omega) (by omega)
 | d + 1,i,k,hd,hk => by
  obtain ⟨k,rfl⟩:∃ k',k = k' + 1:=⟨k - 1,by omega⟩
  have hl':l.length = l'.length:=by have:=congrArg List.length h;simpa using this
  have ih:=same0 l l' c hc hl h d (i + 1) k (by omega) (by omega)
  have h1:(i:Int) < (l.length:Int):=by omega
  have h3:(i:Int) < (l'.length:Int):=by omega
  have h2:0 ≤ (i:Int):=by omega
  simp only [ancepsref50_Same.l0,ws1 i (by omega)]
  rw [if_pos h1,if_pos h2,if_pos h3,if_pos (keyAt_map h i (by omega)),ih]
theorem same50 (l l':List ByteArray) (c:List Int) (hc:c.length ≤ 5000) (hl:l.length ≤ 5000) (h:l.map ByteArray.toList = l'.map ByteArray.toList) (k:Nat) (hk:11000 ≤ k):ancepsref50_Same.f k l c l' c = some true:=by
 have hl':l.length = l'.length:=by have:=congrArg List.length h;simpa using this
 obtain ⟨k,rfl⟩:∃ k',k = k' + 1:=⟨k - 1,by omega⟩
 unfold ancepsref50_Same.f
 rw [if_pos (by omega),bne_self_eq_false]
 simp only [ancepsref50_Same.j0]
 rw [if_neg Bool.false_ne_true]
 exact same0 l l' c hc hl h l.length 0 k (by omega) (by omega)
theorem same53_l (nm:ByteArray) (ls:List S72) (l l':List ByteArray) (c:List Int) (hs:ls.length ≤ 5000):∀ d i k,d + i = ls.length → d + 1 ≤ k → ancepsref53_Same.l0 k (i:Int) nm ls l c nm ls l' c = some true
 | 0,i,k,hd,hk => by
  obtain ⟨k,rfl⟩:∃ k',k = k' + 1:=⟨k - 1,by omega⟩
  simp only [ancepsref53_Same.l0];rw [if_neg (by omega)]
 | d + 1,i,k,hd,hk => by
  obtain ⟨k,rfl⟩:∃ k',k = k' + 1:=⟨k - 1,by omega⟩
  have ih:=same53_l nm ls l l' c hs d (i + 1) k (by omega) (by omega)
  have h1:(i:Int) < (ls.length:Int):=by omega
  have h2:0 ≤ (i:Int):=by omega
  simp only [ancepsref53_Same.l0,ws1 i (by omega),beq_self_eq_true,Bool.not_true,Bool.or_false]
  rw [if_pos h1,if_pos h2,if_pos h1,if_neg Bool.false_ne_true,ih]
theorem same53 (nm:ByteArray) (ls:List S72) (l l':List ByteArray) (c:List Int) (hs:ls.length ≤ 5000) (hc:c.length ≤ 5000) (hl:l.length ≤ 5000) (h:l.map ByteArray.toList = l'.map ByteArray.toList) (k:Nat) (hk:12000 ≤ k):ancepsref53_Same.f k nm ls l c nm ls l' c = some true:=by
 unfold ancepsref53_Same.f
 rw [if_pos rfl,if_pos rfl,same50 l l' c hc hl h k (by omega),Option.bind_some,Bool.not_true]
 obtain ⟨k,rfl⟩:∃ k',k = k' + 1:=⟨k - 1,by omega⟩
 simp only [ancepsref53_Same.j0]
 rw [if_neg Bool.false_ne_true]
 exact same53_l nm ls l l' c hs ls.length 0 k (by omega) (by omega)
theorem few50_l (l:List ByteArray) (c:List Int) (hl:l.length ≤ 2010):∀ d i k x,d + i = l.length → d + 1 ≤ k → ∃ b,ancepsref50_Few.l0 k x (i:Int) l c = some b
 | 0,i,k,x,hd,hk => by
  obtain ⟨k,rfl⟩:∃ k',k = k' + 1:=⟨k - 1,by omega⟩
  simp only [ancepsref50_Few.l0];rw [if_neg (by omega)];exact ⟨_,rfl⟩
 | d + 1,i,k,x,hd,hk => by
  obtain ⟨k,rfl⟩:∃ k',k = k' + 1:=⟨k - 1,by omega⟩
  have h1:(i:Int) < (l.length:Int):=by omega
  have h2:0 ≤ (i:Int):=by omega
  simp only [ancepsref50_Few.l0,ws1 i (by omega)]
  rw [if_pos h1,if_pos h2]
  exact few50_l l c hl d (i + 1) k _ (by omega) (by omega)
theorem few50 (l:List ByteArray) (c:List Int) (k:Nat) (hk:3000 ≤ k):∃ b,ancepsref50_Few.f k l c = some b ∧ (b = true → l.length ≤ 2010 ∧ c.length ≤ 2020):=by
 obtain ⟨k,rfl⟩:∃ k',k = k' + 1:=⟨k - 1,by omega⟩
 have jt:ancepsref50_Few.j0 (k + 1) true l c = some false:=by simp only [ancepsref50_Few.j0];rw [if_pos trivial]
 have jf:∀ hl:¬ (l.length:Int) > 2010,∃ b,ancepsref50_Few.j0 (k + 1) (decide ((c.length:Int) > 2020)) l c = some b ∧ (b = true → l.length ≤ 2010 ∧ c.length ≤ 2020):=by
  intro hl
  by_cases e:(c.length:Int) > 2020
  ·rw [decide_eq_true e,jt];exact ⟨_,rfl,fun h => by cases h⟩
  ·rw [decide_eq_false e]
   simp only [ancepsref50_Few.j0]
   rw [if_neg Bool.false_ne_true]
   obtain ⟨b,hb⟩:=few50_l l c (by omega) l.length 0 k 0 (by omega) (by omega)
   exact ⟨b,hb,fun _ => ⟨by omega,by omega⟩⟩
 unfold ancepsref50_Few.f
 by_cases e1:(l.length:Int) > 60
 ·rw [if_pos e1]
  by_cases e2:(l.length:Int) ≤ 2000
  ·rw [if_pos e2,jt];exact ⟨_,rfl,fun h => by cases h⟩
  ·rw [if_neg e2]
   by_cases e3:(l.length:Int) > 2010
   ·rw [if_pos e3,jt];exact ⟨_,rfl,fun h => by cases h⟩
   ·rw [if_neg e3];exact jf e3
 ·rw [if_neg e1]
  by_cases e3:(l.length:Int) > 2010
  ·rw [if_pos e3,jt];exact ⟨_,rfl,fun h => by cases h⟩
  ·rw [if_neg e3];exact jf e3
theorem wsB (i:Nat) (h:i + 1 ≤ 9223372036854775807):wrap64 ((i:Int) + 1) = ((i + 1:Nat):Int):=by unfold wrap64;omega
theorem few53_l (nm:ByteArray) (ls:List S72) (l:List ByteArray) (c:List Int) (hs:ls.length ≤ 9223372036854775807):∀ d i k x,d + i = ls.length → d + 3001 ≤ k →
  ∃ b,ancepsref53_Few.l0 k x (i:Int) nm ls l c = some b ∧ (b = true → ls.length ≤ 210 ∧ l.length ≤ 2010 ∧ c.length ≤ 2020)
 | 0,i,k,x,hd,hk => by
  obtain ⟨k,rfl⟩:∃ k',k = k' + 1:=⟨k - 1,by omega⟩
  obtain ⟨b,hb,h⟩:=few50 l c k (by omega)
  simp only [ancepsref53_Few.l0];rw [if_neg (by omega)]
  by_cases e:(ls.length:Int) ≤ 210
  ·rw [if_pos e]
   by_cases e2:x ≤ 3000
   ·rw [if_pos e2,hb];exact ⟨b,rfl,fun hq => ⟨by omega,h hq⟩⟩
   ·rw [if_neg e2];exact ⟨_,rfl,fun h => by cases h⟩
  ·rw [if_neg e];exact ⟨_,rfl,fun h => by cases h⟩
 | d + 1,i,k,x,hd,hk => by
  obtain ⟨k,rfl⟩:∃ k',k = k' + 1:=⟨k - 1,by omega⟩
  have h1:(i:Int) < (ls.length:Int):=by omega
  have h2:0 ≤ (i:Int):=by omega
  simp only [ancepsref53_Few.l0,wsB i (by omega)]
  rw [if_pos h1]
  by_cases e2:x ≤ 3000
  ·rw [if_pos e2,if_pos h2]
   exact few53_l nm ls l c hs d (i + 1) k _ (by omega) (by omega)
  ·rw [if_neg e2]
   by_cases e:(ls.length:Int) ≤ 210
   ·rw [if_pos e];exact ⟨_,rfl,fun h => by cases h⟩
   ·rw [if_neg e];exact ⟨_,rfl,fun h => by cases h⟩
theorem few53 (nm:ByteArray) (ls:List S72) (l:List ByteArray) (c:List Int) (hs:ls.length ≤ 9223372036854775807) (k:Nat) (hk:ls.length + 3001 ≤ k) :
  ∃ b,ancepsref53_Few.f k nm ls l c = some b ∧ (b = true → ls.length ≤ 210 ∧ l.length ≤ 2010 ∧ c.length ≤ 2020):=
 few53_l nm ls l c hs ls.length 0 k _ (by omega) hk
theorem ownIs (nm:ByteArray) (ls:List S72) (l:List ByteArray) (c:List Int) (h:ls.length ≤ 210 ∧ l.length ≤ 2010 ∧ c.length ≤ 2020):ancepslaw53_own.f nm ls l c = some (nm,ls,l,c):=by
 obtain ⟨h1,h2,h3⟩:=h
 unfold ancepslaw53_own.f api_Verse_23.f slices_Clone_string_string.f slices_Clone_int_int.f
 rw [if_pos (by omega),if_pos (by omega),if_pos (by omega)]
 rfl
end Go.Proofs.YtnbcnoabbdegpaaGreatDoor.P
