/- A part of the proof of the tied card of ProfileRate (chapter 53): the law returns true whatever the input. -/
set_option linter.unusedVariables false
set_option linter.unusedSimpArgs false
namespace ND
def val:List Int → Nat
 | [] => 0
 | d :: l => d.toNat + 10000 * val l
def ok (l:List Int):Prop:=∀ d ∈ l,0 ≤ d ∧ d < 10000
def digs (n:Nat):List Int:=if h:n = 0 then [] else ((n % 10000:Nat):Int) :: digs (n / 10000)
termination_by n
decreasing_by omega
theorem digs0:digs 0 = []:=by unfold digs;simp
theorem digs_pos {n:Nat} (h:n ≠ 0):digs n = ((n % 10000:Nat):Int) :: digs (n / 10000):=by rw [digs];simp [h]
theorem val_digs:∀ n,val (digs n) = n:=by
 intro n
 induction n using Nat.strongRecOn with
 | ind n ih =>
  by_cases h:n = 0
  ·subst h;rw [digs0];rfl
  ·rw [digs_pos h,val,ih _ (by omega)];omega
theorem ok_digs:∀ n,ok (digs n):=by
 intro n
 induction n using Nat.strongRecOn with
 | ind n ih =>
  by_cases h:n = 0
  ·subst h;rw [digs0];intro d hd;cases hd
  ·rw [digs_pos h]
   intro d hd
   rcases List.mem_cons.1 hd with rfl | hd
   ·omega
   ·exact ih _ (by omega) d hd
theorem ok_nil:ok []:=fun d hd => by cases hd
theorem ok_cons {d:Int} {l:List Int}:ok (d :: l) ↔ (0 ≤ d ∧ d < 10000) ∧ ok l:=
 ⟨fun h => ⟨h d (List.mem_cons_self),fun x hx => h x (List.mem_cons_of_mem _ hx)⟩,fun h x hx => by
  rcases List.mem_cons.1 hx with rfl | hx
  ·exact h.1
  ·exact h.2 x hx⟩
theorem ok_append {a b:List Int}:ok (a ++ b) ↔ ok a ∧ ok b:=
 ⟨fun h => ⟨fun x hx => h x (List.mem_append_left _ hx),fun x hx => h x (List.mem_append_right _ hx)⟩,fun h x hx => by
  rcases List.mem_append.1 hx with hx | hx
  ·exact h.1 x hx
  ·exact h.2 x hx⟩
theorem val_append:∀ (a b:List Int),val (a ++ b) = val a + 10000 ^ a.length * val b
 | [],b => by simp [val]
 | d :: a,b => by
  rw [List.cons_append,val,val,val_append a b,List.length_cons,Nat.pow_succ,Nat.mul_add,← Nat.mul_assoc,Nat.mul_comm 10000 (10000 ^ a.length)]
  omega
theorem val_lt:∀ {l:List Int},ok l → val l < 10000 ^ l.length
 | [],_ => by simp [val]
 | d :: l,h => by
  have h:=ok_cons.1 h
  have:=val_lt h.2
  rw [val,List.length_cons,Nat.pow_succ]
  omega
def top (l:List Int):Prop:=l.getLast? ≠ some 0
theorem top_cons {d e:Int} {l:List Int}:top (d :: e :: l) ↔ top (e :: l):=by
 unfold top;rw [List.getLast?_cons_cons]
theorem can_eq:∀ {l:List Int},ok l → top l → l = digs (val l)
 | [],_,_ => by rw [val,digs0]
 | [d],h,t => by
  have h1:=(ok_cons.1 h).1
  have:d ≠ 0:=by intro c;exact t (by simp [c])
  have e:val [d] = d.toNat:=by simp [val]
  rw [e,digs_pos (by omega),Nat.div_eq_of_lt (by omega),digs0,Nat.mod_eq_of_lt (by omega)]
  congr 1
  omega
 | d :: e :: l,h,t => by
  have h1:=(ok_cons.1 h).1
  have ih:=can_eq (ok_cons.1 h).2 (top_cons.1 t)
  have pos:val (e :: l) ≠ 0:=by
   intro c
   rw [c,digs0] at ih
   cases ih
  rw [val,digs_pos (by omega)]
  have e1:(d.toNat + 10000 * val (e :: l)) % 10000 = d.toNat:=by omega
  have e2:(d.toNat + 10000 * val (e :: l)) / 10000 = val (e :: l):=by omega
  rw [e1,e2,← ih]
  congr 1
  omega
theorem top_digs:∀ n,top (digs n):=by
 intro n
 induction n using Nat.strongRecOn with
 | ind n ih =>
  by_cases h:n = 0
  ·subst h;rw [digs0];unfold top;simp
  ·rw [digs_pos h]
   by_cases h2:n / 10000 = 0
   ·rw [h2,digs0];unfold top;simp;omega
   ·have:=ih (n / 10000) (by omega)
    rw [digs_pos h2] at this ⊢
    exact top_cons.2 this
theorem digs_length {n k:Nat} (h:n < 10000 ^ k):(digs n).length ≤ k:=by
 induction k generalizing n with
 | zero =>
    have:n = 0:=by simpa using h
    subst this;rw [digs0];simp
 | succ k ih =>
  by_cases h0:n = 0
  ·subst h0;rw [digs0];simp
  ·rw [digs_pos h0,List.length_cons]
   have:n / 10000 < 10000 ^ k:=by rw [Nat.div_lt_iff_lt_mul (by omega)];rw [Nat.pow_succ] at h;exact h
   have:=ih this
   omega
theorem length_lt {n m:Nat} (h:(digs n).length < (digs m).length):n < m:=by
 by_cases c:m ≤ n
 ·have h1:(digs m).length ≤ (digs n).length:=by
   clear h
   induction n using Nat.strongRecOn generalizing m with
   | ind n ih =>
    by_cases m0:m = 0
    ·subst m0;rw [digs0];simp
    ·rw [digs_pos m0,digs_pos (n:=n) (by omega),List.length_cons,List.length_cons]
     have:=ih (n / 10000) (by omega) (Nat.div_le_div_right (c:=10000) c)
     omega
  omega
 ·omega
theorem val_zeros:∀ n,val (List.replicate n 0) = 0
 | 0 => rfl
 | n + 1 => by rw [List.replicate_succ,val,val_zeros n];rfl
theorem ok_zeros (n:Nat):ok (List.replicate n 0):=fun d hd => by
 rw [List.eq_of_mem_replicate hd];decide
theorem gd {l:List Int} {i:Nat} (h:i < l.length):l.getD i 0 = l[i]:=by rw [List.getD_eq_getElem?_getD,List.getElem?_eq_getElem h];rfl
theorem gn {l:List Int} {i:Nat} (h:l.length ≤ i):l.getD i 0 = 0:=by rw [List.getD_eq_getElem?_getD,List.getElem?_eq_none h];rfl
theorem ok_getD {l:List Int} (h:ok l) (i:Nat):0 ≤ l.getD i 0 ∧ l.getD i 0 < 10000:=by
 by_cases hi:i < l.length
 ·rw [gd hi];exact h _ (List.getElem_mem hi)
 ·rw [gn (by omega)];decide
theorem ok_take {l:List Int} (h:ok l) (i:Nat):ok (l.take i):=fun d hd => h d (List.mem_of_mem_take hd)
theorem ok_set {l:List Int} (h:ok l) {i:Nat} {d:Int} (hd:0 ≤ d ∧ d < 10000):ok (l.set i d):=fun x hx => by
 rcases List.mem_or_eq_of_mem_set hx with hx | rfl
 ·exact h x hx
 ·exact hd
theorem val_set:∀ {l:List Int} {i:Nat} (d:Int),i < l.length → val (l.set i d) + (l.getD i 0).toNat * 10000 ^ i = val l + d.toNat * 10000 ^ i
 | x :: l,0,d,_ => by simp [val];omega
 | x :: l,i + 1,d,h => by
  have ih:=val_set (l:=l) (i:=i) d (by simpa using h)
  rw [List.set_cons_succ,val,val,List.getD_cons_succ,Nat.pow_succ,← Nat.mul_assoc,← Nat.mul_assoc]
  omega
theorem val_take_succ {l:List Int} {i:Nat} (h:i < l.length):val (l.take (i + 1)) = val (l.take i) + (l.getD i 0).toNat * 10000 ^ i:=by
 rw [List.take_succ_eq_append_getElem h,val_append,List.length_take,Nat.min_eq_left (Nat.le_of_lt h),gd h]
 simp [val,Nat.mul_comm]
theorem val_drop {l:List Int} {i:Nat} (h:i < l.length):val (l.drop i) = (l.getD i 0).toNat + 10000 * val (l.drop (i + 1)):=by
 rw [List.drop_eq_getElem_cons h,val,gd h]
theorem val_split (l:List Int) {i:Nat} (h:i ≤ l.length):val l = val (l.take i) + 10000 ^ i * val (l.drop i):=by
 conv => lhs;rw [← List.take_append_drop i l]
 rw [val_append,List.length_take,Nat.min_eq_left h]
theorem cmp_lt {a b:List Int} (ha:ok a) (hl:a.length = b.length) {i:Nat} (hi:i < a.length) (hd:a.drop (i + 1) = b.drop (i + 1)) (hb:0 ≤ a.getD i 0) (h:a.getD i 0 < b.getD i 0):val a < val b:=by
 rw [val_split a (i:=i) (by omega),val_split b (i:=i) (by omega),val_drop hi,val_drop (l:=b) (i:=i) (by omega),hd]
 have h1:=val_lt (ok_take ha i)
 rw [List.length_take,Nat.min_eq_left (by omega)] at h1
 have h2:(a.getD i 0).toNat + 1 ≤ (b.getD i 0).toNat:=by omega
 generalize val (a.take i) = p at *
 generalize val (b.take i) = q at *
 generalize val (b.drop (i + 1)) = r at *
 have h3:10000 ^ i * ((a.getD i 0).toNat + 10000 * r) + 10000 ^ i ≤ 10000 ^ i * ((b.getD i 0).toNat + 10000 * r):=by
  rw [← Nat.mul_succ]
  exact Nat.mul_le_mul_left _ (by omega)
 omega
theorem digs_inj {x y:Nat} (h:digs x = digs y):x = y:=by rw [← val_digs x,h,val_digs]
theorem cmp_lt' (x y:Nat) (hl:(digs x).length = (digs y).length) {i:Nat} (hi:i < (digs x).length) (hd:(digs x).drop (i + 1) = (digs y).drop (i + 1)) (h:(digs x).getD i 0 < (digs y).getD i 0):x < y:=by
 have:=cmp_lt (ok_digs x) hl hi hd (ok_getD (ok_digs x) i).1 h
 rwa [val_digs,val_digs] at this
theorem drop_step {a b:List Int} {j:Nat} (hj:j < a.length) (hl:a.length = b.length) (hd:a.drop (j + 1) = b.drop (j + 1)) (h:a.getD j 0 = b.getD j 0):a.drop j = b.drop j:=by
 rw [List.drop_eq_getElem_cons hj,List.drop_eq_getElem_cons (l:=b) (by omega),hd,← gd hj,← gd (l:=b) (by omega),h]
def tl (l:List Int):Nat → Nat
 | 0 => 0
 | n + 1 => if l.getD n 0 = 0 then tl l n else n + 1
theorem tl_law (l:List Int):∀ n,n ≤ l.length → val (l.take (tl l n)) = val (l.take n) ∧ tl l n ≤ n ∧ top (l.take (tl l n))
 | 0,_ => ⟨rfl,Nat.le_refl _,by unfold top tl;simp⟩
 | n + 1,h => by
  have ih:=tl_law l n (by omega)
  unfold tl
  by_cases c:l.getD n 0 = 0
  ·rw [if_pos c]
   refine ⟨?_,by omega,ih.2.2⟩
   rw [val_take_succ (by omega),c,ih.1]
   simp
  ·rw [if_neg c]
   refine ⟨rfl,Nat.le_refl _,?_⟩
   unfold top
   rw [List.take_succ_eq_append_getElem (by omega),List.getLast?_concat]
   intro e
   rw [gd (by omega)] at c
   exact c (Option.some.inj e)
theorem trim_take {l:List Int} (h:ok l):l.take (tl l l.length) = digs (val l):=by
 have t:=tl_law l l.length (Nat.le_refl _)
 rw [can_eq (ok_take h _) t.2.2,t.1,List.take_length]
theorem tl_le (l:List Int):tl l l.length ≤ l.length:=(tl_law l l.length (Nat.le_refl _)).2.1
theorem tl_len {l:List Int} (h:ok l):tl l l.length = (digs (val l)).length:=by
 rw [← trim_take h,List.length_take,Nat.min_eq_left (tl_le l)]
theorem mul_step {out:List Int} {p S:Nat} {c x y n:Int} (ho:ok out) (hp:p < out.length) (hc:0 ≤ c ∧ c < 10000) (hx:0 ≤ x ∧ x < 10000) (hy:0 ≤ y ∧ y < 10000)
  (h:val out + c.toNat * 10000 ^ p = S) (hn:n = c + (out.getD p 0 + x * y)) :
  (0 ≤ n ∧ n < 100000000) ∧ ok (out.set p (n % 10000)) ∧ (0 ≤ n / 10000 ∧ n / 10000 < 10000) ∧ val (out.set p (n % 10000)) + (n / 10000).toNat * 10000 ^ (p + 1) = S + x.toNat * y.toNat * 10000 ^ p:=by
 have hd:=ok_getD ho p
 have hxy:0 ≤ x * y ∧ x * y ≤ 9999 * 9999:=⟨Int.mul_nonneg hx.1 hy.1,Int.mul_le_mul (by omega) (by omega) hy.1 (by omega)⟩
 have hm:(x * y).toNat = x.toNat * y.toNat:=by
  obtain ⟨x',rfl⟩:=Int.eq_ofNat_of_zero_le hx.1
  obtain ⟨y',rfl⟩:=Int.eq_ofNat_of_zero_le hy.1
  rfl
 have e:=val_set (l:=out) (i:=p) (n % 10000) hp
 generalize x * y = z at *
 generalize out.getD p 0 = o at *
 refine ⟨by omega,ok_set ho (by omega),by omega,?_⟩
 rw [← hm,← h,Nat.pow_succ]
 have en:(n % 10000).toNat + 10000 * (n / 10000).toNat = c.toNat + o.toNat + z.toNat:=by omega
 generalize val (out.set p (n % 10000)) = V at *
 generalize val out = U at *
 generalize 10000 ^ p = P at *
 have e2:=congrArg (fun t => t * P) en
 simp only [Nat.add_mul] at e2
 have e3:10000 * (n / 10000).toNat * P = (n / 10000).toNat * (P * 10000):=by
  rw [Nat.mul_comm 10000 _,Nat.mul_assoc,Nat.mul_comm P 10000]
 omega
theorem take_step (b:List Int) (j:Nat):val (b.take (j + 1)) = val (b.take j) + (b.getD j 0).toNat * 10000 ^ j:=by
 by_cases h:j < b.length
 ·exact val_take_succ h
 ·rw [gn (by omega),List.take_of_length_le (by omega),List.take_of_length_le (by omega)];simp
def MI (L:Nat) (a b:List Int) (i:Nat) (out:List Int):Prop:=ok out ∧ out.length = L ∧ val out = val (a.take i) * val b ∧ ∀ k,i + b.length ≤ k → out.getD k 0 = 0
def MJ (L:Nat) (a b:List Int) (i j:Nat) (out:List Int) (c:Int):Prop:=
 ok out ∧ out.length = L ∧ (0 ≤ c ∧ c < 10000) ∧ val out + c.toNat * 10000 ^ (i + j) = val (a.take i) * val b + (a.getD i 0).toNat * 10000 ^ i * val (b.take j) ∧ (∀ k,i + max j b.length ≤ k → out.getD k 0 = 0) ∧ j ≤ b.length + 1 ∧ (b.length < j → c = 0)
theorem MI0 (L:Nat) (a b:List Int):MI L a b 0 (List.replicate L 0):=
 ⟨ok_zeros L,List.length_replicate,by rw [val_zeros];simp [val],fun k _ => by
  rw [List.getD_eq_getElem?_getD,List.getElem?_replicate];split <;> rfl⟩
theorem MJ0 {L:Nat} {a b:List Int} {i:Nat} {out:List Int} (h:MI L a b i out):MJ L a b i 0 out 0:=
 ⟨h.1,h.2.1,by omega,by rw [h.2.2.1];simp [val],fun k hk => h.2.2.2 k (by omega),by omega,fun _ => rfl⟩
theorem getD_set_ne {l:List Int} {i k:Nat} (v:Int) (h:i ≠ k):(l.set i v).getD k 0 = l.getD k 0:=by
 rw [List.getD_eq_getElem?_getD,List.getD_eq_getElem?_getD,List.getElem?_set_ne h]
theorem getD_set_eq {l:List Int} {i:Nat} (v:Int) (h:i < l.length):(l.set i v).getD i 0 = v:=by
 rw [List.getD_eq_getElem?_getD,List.getElem?_set_self h];rfl
theorem MJs {L:Nat} {a b:List Int} {i j:Nat} {out:List Int} {c n:Int} (oa:ok a) (ob:ok b) (h:MJ L a b i j out c) (hj:j ≤ b.length) (hL:i + j < L) (hn:n = c + (out.getD (i + j) 0 + a.getD i 0 * b.getD j 0)) :
  (0 ≤ n ∧ n < 100000000) ∧ MJ L a b i (j + 1) (out.set (i + j) (n % 10000)) (n / 10000):=by
 obtain ⟨h1,h2,h3,h4,h5,h6,h7⟩:=h
 have s:=mul_step (n:=n) h1 (p:=i + j) (by omega) h3 (ok_getD oa i) (ok_getD ob j) h4 hn
 refine ⟨s.1,s.2.1,by rw [List.length_set];exact h2,s.2.2.1,?_,fun k hk => ?_,by omega,fun hb => ?_⟩
 ·rw [← Nat.add_assoc,s.2.2.2,take_step,Nat.mul_add,Nat.add_assoc,Nat.pow_add,Nat.mul_assoc,Nat.mul_assoc,Nat.mul_assoc,Nat.mul_left_comm (b.getD j 0).toNat]
 ·rw [getD_set_ne _ (by omega)]
  exact h5 k (by omega)
 ·have e:j = b.length:=by omega
  subst e
  rw [gn (l:=b) (Nat.le_refl _),h5 (i + b.length) (by omega)] at hn
  omega
theorem MIs {L:Nat} {a b:List Int} {i:Nat} {out:List Int} {c:Int} (hi:i < a.length) (h:MJ L a b i b.length out c) (hL:i + b.length < L) :
  out.getD (i + b.length) 0 = 0 ∧ (0 ≤ c ∧ c < 10000) ∧ MI L a b (i + 1) (out.set (i + b.length) c):=by
 obtain ⟨h1,h2,h3,h4,h5,h6,h7⟩:=h
 have z:=h5 (i + b.length) (by omega)
 refine ⟨z,h3,ok_set h1 h3,by rw [List.length_set];exact h2,?_,fun k hk => ?_⟩
 ·have e:=val_set (l:=out) (i:=i + b.length) c (by omega)
  rw [z,List.take_length] at *
  rw [take_step,Nat.add_mul,← h4]
  simpa using e
 ·rw [getD_set_ne _ (by omega)]
  exact h5 k (by omega)
theorem MIt {L:Nat} {a b:List Int} {i j:Nat} {out:List Int} (h:MJ L a b i j out 0) (hj:b.length ≤ j):MI L a b (i + 1) out:=by
 obtain ⟨h1,h2,h3,h4,h5,h6,h7⟩:=h
 refine ⟨h1,h2,?_,fun k hk => h5 k (by omega)⟩
 rw [List.take_of_length_le hj] at h4
 rw [take_step,Nat.add_mul,← h4]
 simp
theorem MIend {L:Nat} {a b:List Int} {out:List Int} (h:MI L a b a.length out):val out = val a * val b:=by
 rw [h.2.2.1,List.take_length]
theorem val_concat (l:List Int) (d:Int):val (l ++ [d]) = val l + 10000 ^ l.length * d.toNat:=by rw [val_append];simp [val]
theorem ok_concat {l:List Int} {d:Int} (h:ok l) (hd:0 ≤ d ∧ d < 10000):ok (l ++ [d]):=ok_append.2 ⟨h,ok_cons.2 ⟨hd,ok_nil⟩⟩
theorem take_concat {l:List Int} {i:Nat} {d:Int} (h:i < l.length):(l.set i d).take (i + 1) = l.take i ++ [d]:=by
 rw [List.take_succ_eq_append_getElem (by simpa using h),List.take_set_of_le (Nat.le_refl _)]
 simp
def LI (a b:List Int) (i:Nat) (out:List Int) (c:Int):Prop:=ok out ∧ out.length = i ∧ (c = 0 ∨ c = 1) ∧ val out + val (b.take i) = val (a.take i) + c.toNat * 10000 ^ i
theorem LI0 (a b:List Int):LI a b 0 [] 0:=⟨ok_nil,rfl,.inl rfl,by simp [val]⟩
theorem LIs {a b out:List Int} {i:Nat} {c t:Int} (oa:ok a) (ob:ok b) (h:LI a b i out c) (ht:t = a.getD i 0 - b.getD i 0 - c) :
  (-10000 ≤ t ∧ t < 10000) ∧ (t < 0 → LI a b (i + 1) (out ++ [t + 10000]) 1) ∧ (0 ≤ t → LI a b (i + 1) (out ++ [t]) 0):=by
 obtain ⟨h1,h2,h3,h4⟩:=h
 have x:=ok_getD oa i
 have y:=ok_getD ob i
 have ea:=take_step a i
 have eb:=take_step b i
 refine ⟨by omega,fun hn => ⟨ok_concat h1 (by omega),by simp [h2],.inr rfl,?_⟩,fun hn => ⟨ok_concat h1 (by omega),by simp [h2],.inl rfl,?_⟩⟩
 ·rw [val_concat,h2,ea,eb,Nat.pow_succ]
  have e:(t + 10000).toNat + (b.getD i 0).toNat + c.toNat = (a.getD i 0).toNat + 10000:=by omega
  have e2:=congrArg (fun t => t * 10000 ^ i) e
  simp only [Nat.add_mul] at e2
  rw [Nat.mul_comm (10000 ^ i) (t + 10000).toNat,Nat.mul_comm (10000 ^ i) 10000,show (1:Int).toNat = 1 from rfl,Nat.one_mul]
  generalize 10000 ^ i = P at *
  generalize (t + 10000).toNat * P = u at *
  generalize (b.getD i 0).toNat * P = v at *
  generalize (a.getD i 0).toNat * P = z at *
  generalize c.toNat * P = y at *
  omega
 ·rw [val_concat,h2,ea,eb]
  have e:t.toNat + (b.getD i 0).toNat + c.toNat = (a.getD i 0).toNat:=by omega
  have e2:=congrArg (fun t => t * 10000 ^ i) e
  simp only [Nat.add_mul] at e2
  rw [Nat.mul_comm (10000 ^ i) t.toNat]
  rw [show (0:Int).toNat = 0 from rfl,Nat.zero_mul]
  generalize 10000 ^ i = P at *
  generalize t.toNat * P = u at *
  generalize (b.getD i 0).toNat * P = v at *
  generalize (a.getD i 0).toNat * P = z at *
  generalize c.toNat * P = y at *
  omega
theorem LIend {a b out:List Int} {c:Int} (h:LI a b a.length out c) (hl:b.length ≤ a.length) (hv:val b ≤ val a):ok out ∧ val out = val a - val b:=by
 obtain ⟨h1,h2,h3,h4⟩:=h
 rw [List.take_of_length_le hl,List.take_length] at h4
 have:=val_lt h1
 rw [h2] at this
 refine ⟨h1,?_⟩
 rcases h3 with rfl | rfl
 ·simp at h4;omega
 ·simp at h4;omega
def SI (a b:List Int) (i:Nat) (out:List Int) (c:Int):Prop:=out.length = a.length ∧ out.drop i = a.drop i ∧ LI a b i (out.take i) c
theorem SI0 (a b:List Int):SI a b 0 a 0:=⟨rfl,rfl,by simpa using LI0 a b⟩
theorem SI_get {a b out:List Int} {i:Nat} {c:Int} (h:SI a b i out c) (hi:i < a.length):out.getD i 0 = a.getD i 0:=by
 have e:=h.2.1
 have e2:=congrArg (fun l => l.getD 0 0) e
 simpa [List.getD_eq_getElem?_getD] using e2
theorem SI_set {a b out:List Int} {i:Nat} {c d e:Int} (h:SI a b i out c) (hi:i < a.length) (hd:LI a b (i + 1) (out.take i ++ [d]) e):SI a b (i + 1) (out.set i d) e:=by
 refine ⟨by rw [List.length_set];exact h.1,?_,by rw [take_concat (by rw [h.1];exact hi)];exact hd⟩
 rw [List.drop_set_of_lt (by omega),← List.drop_drop,← List.drop_drop,h.2.1]
theorem SIs {a b out:List Int} {i:Nat} {c t:Int} (oa:ok a) (ob:ok b) (h:SI a b i out c) (hi:i < a.length) (ht:t = a.getD i 0 - b.getD i 0 - c) :
  (-10000 ≤ t ∧ t < 10000) ∧ (t < 0 → SI a b (i + 1) (out.set i (t + 10000)) 1) ∧ (0 ≤ t → SI a b (i + 1) (out.set i t) 0):=by
 have s:=LIs oa ob h.2.2 ht
 exact ⟨s.1,fun hn => SI_set h hi (s.2.1 hn),fun hn => SI_set h hi (s.2.2 hn)⟩
theorem SIend {a b out:List Int} {c:Int} (h:SI a b a.length out c) (hl:b.length ≤ a.length) (hv:val b ≤ val a):ok out ∧ val out = val a - val b:=by
 have e:=LIend h.2.2 hl hv
 rwa [List.take_of_length_le (by rw [h.1];exact Nat.le_refl _)] at e
def UI (a b:List Int) (i:Nat) (out:List Int) (c:Int):Prop:=ok out ∧ out.length = i ∧ (c = 0 ∨ c = 1) ∧ val out + c.toNat * 10000 ^ i = val (a.take i) + val (b.take i)
theorem UI0 (a b:List Int):UI a b 0 [] 0:=⟨ok_nil,rfl,.inl rfl,by simp [val]⟩
theorem UIs {a b out:List Int} {i:Nat} {c t:Int} (oa:ok a) (ob:ok b) (h:UI a b i out c) (ht:t = a.getD i 0 + b.getD i 0 + c) :
  (0 ≤ t ∧ t < 20000) ∧ UI a b (i + 1) (out ++ [t % 10000]) (t / 10000):=by
 obtain ⟨h1,h2,h3,h4⟩:=h
 have x:=ok_getD oa i
 have y:=ok_getD ob i
 refine ⟨by omega,ok_concat h1 (by omega),by simp [h2],by omega,?_⟩
 rw [val_concat,h2,take_step a i,take_step b i,Nat.pow_succ]
 have e:(t % 10000).toNat + 10000 * (t / 10000).toNat = (a.getD i 0).toNat + (b.getD i 0).toNat + c.toNat:=by omega
 have e2:=congrArg (fun t => t * 10000 ^ i) e
 simp only [Nat.add_mul] at e2
 have e3:10000 * (t / 10000).toNat * 10000 ^ i = (t / 10000).toNat * (10000 ^ i * 10000):=by rw [Nat.mul_comm 10000 _,Nat.mul_assoc,Nat.mul_comm 10000]
 rw [Nat.mul_comm (10000 ^ i) (t % 10000).toNat]
 generalize 10000 ^ i = P at *
 generalize (t / 10000).toNat * (P * 10000) = q at *
 generalize 10000 * (t / 10000).toNat * P = q2 at *
 generalize (t % 10000).toNat * P = u at *
 generalize (b.getD i 0).toNat * P = v at *
 generalize (a.getD i 0).toNat * P = z at *
 generalize c.toNat * P = y at *
 omega
theorem UIend {a b out:List Int} {i:Nat} {c:Int} (h:UI a b i out c) (ha:a.length ≤ i) (hb:b.length ≤ i):ok (out ++ [c]) ∧ val (out ++ [c]) = val a + val b:=by
 obtain ⟨h1,h2,h3,h4⟩:=h
 rw [List.take_of_length_le ha,List.take_of_length_le hb] at h4
 refine ⟨ok_concat h1 (by omega),?_⟩
 rw [val_concat,h2,Nat.mul_comm,h4]
def HI (l:List Int) (j:Nat) (out:List Int) (c:Int):Prop:=ok out ∧ out.length = l.length ∧ (c = 0 ∨ c = 1) ∧ 2 * val (out.drop j) + c.toNat = val (l.drop j)
theorem HI0 (l:List Int):HI l l.length (List.replicate l.length 0) 0:=⟨ok_zeros _,List.length_replicate,.inl rfl,by simp [val]⟩
theorem drop_set_at {l:List Int} {j:Nat} {d:Int} (h:j < l.length):(l.set j d).drop j = d :: l.drop (j + 1):=by
 rw [List.drop_eq_getElem_cons (by simpa using h),List.drop_set_of_lt (by omega)]
 simp
theorem HIs {l out:List Int} {j:Nat} {c n:Int} (ol:ok l) (h:HI l (j + 1) out c) (hj:j < l.length) (hn:n = c * 10000 + l.getD j 0) :
  (0 ≤ n ∧ n < 20000) ∧ HI l j (out.set j (n / 2)) (n % 2):=by
 obtain ⟨h1,h2,h3,h4⟩:=h
 have x:=ok_getD ol j
 refine ⟨by omega,ok_set h1 (by omega),by rw [List.length_set];exact h2,by omega,?_⟩
 rw [drop_set_at (by omega),val,val_drop hj]
 omega
theorem HIend {l out:List Int} {c:Int} (h:HI l 0 out c):ok out ∧ val out = val l / 2:=by
 obtain ⟨h1,h2,h3,h4⟩:=h
 rw [List.drop_zero,List.drop_zero] at h4
 exact ⟨h1,by omega⟩
theorem even_law {l:List Int} (h:ok l):val l % 2 = 0 ↔ (l.length = 0 ∨ l.getD 0 0 % 2 = 0):=by
 cases l with
 | nil => simp [val]
 | cons d l =>
  have hd:=(ok_cons.1 h).1
  rw [val]
  simp
  omega
def DI (a:List Int) (v:Nat) (j:Nat) (out:List Int) (r:Nat):Prop:=ok out ∧ out.length = a.length ∧ val (a.drop j) = val (out.drop j) * v + r ∧ r < v
theorem DI0 {a:List Int} {v:Nat} (hv:0 < v):DI a v a.length (List.replicate a.length 0) 0:=⟨ok_zeros _,List.length_replicate,by simp [val],hv⟩
theorem head_val (d:Int) (r:Nat):val (d :: digs r) = d.toNat + 10000 * r:=by rw [val,val_digs]
theorem head_ok {d:Int} (h:0 ≤ d ∧ d < 10000) (r:Nat):ok (d :: digs r):=ok_cons.2 ⟨h,ok_digs r⟩
theorem low_lt {d r v:Nat} (hd:d < 10000) (hr:r < v):(d + 10000 * r) / v < 10000:=by
 rw [Nat.div_lt_iff_lt_mul (by omega)]
 have:(r + 1) * 10000 ≤ v * 10000:=Nat.mul_le_mul_right _ hr
 omega
theorem DIs {a:List Int} {v j:Nat} {out:List Int} {r:Nat} (oa:ok a) (h:DI a v (j + 1) out r) (hj:j < a.length) :
  DI a v j (out.set j (((((a.getD j 0).toNat + 10000 * r) / v:Nat):Int))) (((a.getD j 0).toNat + 10000 * r) % v):=by
 obtain ⟨h1,h2,h3,h4⟩:=h
 have x:=ok_getD oa j
 have q:=low_lt (d:=(a.getD j 0).toNat) (by omega) h4
 refine ⟨ok_set h1 ⟨Int.natCast_nonneg _,Int.ofNat_lt.2 q⟩,by rw [List.length_set];exact h2,?_,Nat.mod_lt _ (by omega)⟩
 rw [drop_set_at (by omega),val,val_drop hj,h3,Int.toNat_natCast]
 generalize hN:(a.getD j 0).toNat + 10000 * r = N at *
 have e:=Nat.div_add_mod N v
 rw [Nat.add_mul,Nat.mul_add,← Nat.mul_assoc,Nat.mul_comm (N / v) v]
 omega
theorem DIend {a:List Int} {v:Nat} {out:List Int} {r:Nat} (h:DI a v 0 out r):ok out ∧ val out = val a / v ∧ r = val a % v:=by
 obtain ⟨h1,h2,h3,h4⟩:=h
 rw [List.drop_zero,List.drop_zero] at h3
 rw [h3,Nat.mul_comm]
 exact ⟨h1,by rw [Nat.mul_add_div (by omega),Nat.div_eq_of_lt h4,Nat.add_zero],by rw [Nat.mul_add_mod,Nat.mod_eq_of_lt h4]⟩
def QI (a:List Int) (v:Nat) (j:Nat) (l:List Int) (r:Nat):Prop:=ok l ∧ l.length + j = a.length ∧ val (a.drop j) = val l.reverse * v + r ∧ r < v
theorem QI0 {a:List Int} {v:Nat} (hv:0 < v):QI a v a.length [] 0:=⟨ok_nil,by simp,by simp [val],hv⟩
theorem QIs {a:List Int} {v j:Nat} {l:List Int} {r:Nat} (oa:ok a) (h:QI a v (j + 1) l r) (hj:j < a.length) :
  QI a v j (l ++ [((((a.getD j 0).toNat + 10000 * r) / v:Nat):Int)]) (((a.getD j 0).toNat + 10000 * r) % v):=by
 obtain ⟨h1,h2,h3,h4⟩:=h
 have x:=ok_getD oa j
 have q:=low_lt (d:=(a.getD j 0).toNat) (by omega) h4
 refine ⟨ok_concat h1 ⟨Int.natCast_nonneg _,Int.ofNat_lt.2 q⟩,by simp;omega,?_,Nat.mod_lt _ (by omega)⟩
 rw [List.reverse_append,List.reverse_singleton,List.singleton_append,val,val_drop hj,h3,Int.toNat_natCast]
 generalize hN:(a.getD j 0).toNat + 10000 * r = N at *
 have e:=Nat.div_add_mod N v
 rw [Nat.add_mul,Nat.mul_add,← Nat.mul_assoc,Nat.mul_comm (N / v) v]
 omega
theorem ok_reverse {l:List Int} (h:ok l):ok l.reverse:=fun d hd => h d (List.mem_reverse.1 hd)
theorem QIend {a:List Int} {v:Nat} {l:List Int} {r:Nat} (h:QI a v 0 l r):ok l.reverse ∧ val l.reverse = val a / v ∧ r = val a % v:=by
 obtain ⟨h1,h2,h3,h4⟩:=h
 rw [List.drop_zero] at h3
 rw [h3,Nat.mul_comm]
 exact ⟨ok_reverse h1,by rw [Nat.mul_add_div (by omega),Nat.div_eq_of_lt h4,Nat.add_zero],by rw [Nat.mul_add_mod,Nat.mod_eq_of_lt h4]⟩
def BS (N v lo hi:Nat):Prop:=lo * v ≤ N ∧ N < (hi + 1) * v ∧ lo ≤ hi ∧ hi ≤ 9999
theorem BS0 {N v:Nat} (hv:0 < v) (h:N / v < 10000):BS N v 0 9999:=⟨by omega,by have:=(Nat.div_lt_iff_lt_mul hv).1 h;omega,by omega,Nat.le_refl _⟩
theorem BSt {N v lo hi:Nat} (h:BS N v lo hi) (hl:lo < hi) (hc:v * ((lo + hi + 1) / 2) ≤ N):BS N v ((lo + hi + 1) / 2) hi:=⟨by rw [Nat.mul_comm];exact hc,h.2.1,by omega,h.2.2.2⟩
theorem BSf {N v lo hi:Nat} (h:BS N v lo hi) (hl:lo < hi) (hc:N < v * ((lo + hi + 1) / 2)):BS N v lo ((lo + hi + 1) / 2 - 1):=⟨h.1,by rw [show (lo + hi + 1) / 2 - 1 + 1 = (lo + hi + 1) / 2 by omega,Nat.mul_comm];exact hc,by omega,by have:=h.2.2.2;omega⟩
theorem BSend {N v lo hi:Nat} (h:BS N v lo hi) (hl:¬ lo < hi):lo = N / v:=by
 have e:hi = lo:=by have:=h.2.2.1;omega
 subst e
 exact (Nat.div_eq_of_lt_le h.1 h.2.1).symm
theorem rest_eq (N v:Nat):N - v * (N / v) = N % v:=by have:=Nat.div_add_mod N v;omega
theorem val1 (d:Nat):val [(d:Int)] = d:=by simp [val]
theorem ok1 {d:Nat} (h:d ≤ 9999):ok [(d:Int)]:=ok_cons.2 ⟨by omega,ok_nil⟩
theorem gcd_ee {X Y:Nat} (hx:X % 2 = 0) (hy:Y % 2 = 0):Nat.gcd X Y = 2 * Nat.gcd (X / 2) (Y / 2):=by
 rw [← Nat.gcd_mul_left,Nat.mul_div_cancel' (Nat.dvd_of_mod_eq_zero hx),Nat.mul_div_cancel' (Nat.dvd_of_mod_eq_zero hy)]
theorem gcd_eo {X Y:Nat} (hx:X % 2 = 0) (hy:Y % 2 = 1):Nat.gcd X Y = Nat.gcd (X / 2) Y:=by
 have c:Nat.Coprime 2 Y:=by
  unfold Nat.Coprime
  rw [Nat.gcd_rec,hy]
  rfl
 conv => lhs;rw [← Nat.mul_div_cancel' (Nat.dvd_of_mod_eq_zero hx)]
 exact Nat.Coprime.gcd_mul_left_cancel _ c
theorem gcd_oe {X Y:Nat} (hx:X % 2 = 1) (hy:Y % 2 = 0):Nat.gcd X Y = Nat.gcd X (Y / 2):=by rw [Nat.gcd_comm,gcd_eo hy hx,Nat.gcd_comm]
theorem gcd_gt {X Y:Nat} (h:Y < X):Nat.gcd X Y = Nat.gcd Y (X - Y):=by
 conv => lhs;rw [← Nat.sub_add_cancel (Nat.le_of_lt h),Nat.gcd_comm]
 simp
theorem gcd_le {X Y:Nat} (h:X ≤ Y):Nat.gcd X Y = Nat.gcd X (Y - X):=by
 conv => lhs;rw [← Nat.sub_add_cancel h]
 simp
def RV (l:List Int) (i:Nat) (out:List Int):Prop:=out.length = l.length ∧ ∀ k,k < l.length → out.getD k 0 = if k < i ∨ l.length - i ≤ k then l.getD (l.length - 1 - k) 0 else l.getD k 0
theorem RV0 (l:List Int):RV l 0 l:=⟨rfl,fun k hk => by rw [if_neg (by omega)]⟩
theorem RV_get {l out:List Int} {i:Nat} (h:RV l i out) {k:Nat} (h1:i ≤ k) (h2:k < l.length - i):out.getD k 0 = l.getD k 0:=by rw [h.2 k (by omega),if_neg (by omega)]
theorem RVs {l out:List Int} {i j:Nat} (h:RV l i out) (hj:i + j + 1 = l.length) (hi:i < j):RV l (i + 1) ((out.set i (l.getD j 0)).set j (l.getD i 0)):=by
 refine ⟨by rw [List.length_set,List.length_set];exact h.1,fun k hk => ?_⟩
 by_cases e1:k = j
 ·subst e1
  rw [getD_set_eq _ (by rw [List.length_set,h.1];exact hk),if_pos (by omega)]
  congr 1
  omega
 ·rw [getD_set_ne _ (fun e => e1 e.symm)]
  by_cases e2:k = i
  ·subst e2
   rw [getD_set_eq _ (by rw [h.1];exact hk),if_pos (by omega)]
   congr 1
   omega
  ·rw [getD_set_ne _ (fun e => e2 e.symm),h.2 k hk]
   by_cases c:k < i ∨ l.length - i ≤ k
   ·rw [if_pos c,if_pos (by omega)]
   ·rw [if_neg c,if_neg (by omega)]
theorem RVend {l out:List Int} {i:Nat} (h:RV l i out) (hi:l.length ≤ 2 * i + 1):out = l.reverse:=by
 apply List.ext_getElem
 ·rw [List.length_reverse];exact h.1
 ·intro k h1 h2
  have hk:k < l.length:=by rw [← h.1];exact h1
  have e:=h.2 k hk
  rw [gd h1] at e
  rw [e,List.getElem_reverse]
  by_cases c:k < i ∨ l.length - i ≤ k
  ·rw [if_pos c,gd (by omega)]
  ·rw [if_neg c,gd hk]
   congr 1
   omega
theorem digs_mono {x y:Nat} (h:x ≤ y):(digs x).length ≤ (digs y).length:=by
 by_cases c:(digs x).length ≤ (digs y).length
 ·exact c
 ·have:=length_lt (n:=y) (m:=x) (by omega)
  omega
theorem rest_len {b:List Int} {R:Nat} (ob:ok b) (h:R < val b):(digs R).length ≤ b.length:=digs_length (Nat.lt_trans h (val_lt ob))
theorem next_len {b:List Int} {R d:Nat} (ob:ok b) (h:R < val b) (hd:d < 10000):(digs (d + 10000 * R)).length ≤ b.length + 1:=by
 refine digs_length ?_
 have h2:=val_lt ob
 rw [Nat.pow_succ]
 have h3:R + 1 ≤ 10000 ^ b.length:=by omega
 have h4:=Nat.mul_le_mul_right 10000 h3
 omega
theorem two_bound' {t n k:Nat} (h:2 ^ t ≤ n) (hn:n < 10000 ^ k):t < 14 * k:=by
 have h1:(10000:Nat) ^ k ≤ (2 ^ 14) ^ k:=Nat.pow_le_pow_left (by decide) k
 rw [← Nat.pow_mul] at h1
 exact (Nat.pow_lt_pow_iff_right (a:=2) (by decide)).1 (Nat.lt_of_le_of_lt h (Nat.lt_of_lt_of_le hn h1))
theorem two_bound {t n:Nat} (h:2 ^ t ≤ n) (hn:n < 10000 ^ 200):t < 2800:=two_bound' h hn
theorem len_lt200 {x:Nat} (h:(digs x).length ≤ 200):x < 10000 ^ 200:=by
 have:=val_lt (ok_digs x)
 rw [val_digs] at this
 exact Nat.lt_of_lt_of_le this (Nat.pow_le_pow_right (by decide) h)
end ND
