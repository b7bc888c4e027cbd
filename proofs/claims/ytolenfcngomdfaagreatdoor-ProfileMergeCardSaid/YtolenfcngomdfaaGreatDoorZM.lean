/- A part of the proof of the tied card of ProfileMerge (chapter 53): the law returns true whatever the input. -/
import Derived.Lib.Split
set_option linter.unusedVariables false
set_option linter.unusedSimpArgs false
namespace PM
abbrev K := List UInt8
abbrev P := List (K × Int)
theorem lt_irrefl (a : K) : ¬ a < a := List.lt_irrefl a
theorem lt_trans {a b c : K} (h : a < b) (h' : b < c) : a < c := List.lt_trans h h'
theorem tri (a b : K) (h : ¬ a < b) (h' : ¬ b < a) : a = b := List.le_antisymm (List.not_lt.1 h') (List.not_lt.1 h)
/-- The keys ascend. -/
def Asc : P → Prop
  | [] => True
  | (k, _) :: t => (∀ x ∈ t, k < x.1) ∧ Asc t
def get : P → K → Option Int
  | [], _ => none
  | (k, n) :: t, x => if k = x then some n else get t x
theorem get_none {t : P} {k : K} (h : ∀ x ∈ t, k < x.1) : get t k = none := by
  induction t with
  | nil => rfl
  | cons y t ih =>
    obtain ⟨k', n⟩ := y
    have h1 : k < k' := h _ (List.mem_cons_self ..)
    have hne : k' ≠ k := fun e => lt_irrefl k (e ▸ h1)
    rw [get, if_neg hne]
    exact ih (fun x hx => h x (List.mem_cons_of_mem _ hx))
theorem get_mem {t : P} {k : K} {n : Int} (h : get t k = some n) : (k, n) ∈ t := by
  induction t with
  | nil => simp [get] at h
  | cons y t ih =>
    obtain ⟨k', m⟩ := y
    rw [get] at h
    by_cases e : k' = k
    · rw [if_pos e] at h; cases h; exact e ▸ List.mem_cons_self ..
    · rw [if_neg e] at h; exact List.mem_cons_of_mem _ (ih h)
theorem get_of_mem {t : P} (ha : Asc t) {k : K} {n : Int} (h : (k, n) ∈ t) : get t k = some n := by
  induction t with
  | nil => cases h
  | cons y t ih =>
    obtain ⟨k', m⟩ := y
    obtain ⟨h1, h2⟩ := ha
    rw [get]
    rcases List.mem_cons.1 h with e | e
    · cases e; rw [if_pos rfl]
    · have h3 := h1 _ e
      have hne : k' ≠ k := fun e' => lt_irrefl k (by subst e'; exact h3)
      rw [if_neg hne]; exact ih h2 e
/-- Two ascending lists that answer alike are equal. -/
theorem ext : ∀ {a b : P}, Asc a → Asc b → (∀ k, get a k = get b k) → a = b
  | [], [], _, _, _ => rfl
  | [], (k, n) :: b, _, _, h => by have := h k; simp [get] at this
  | (k, n) :: a, [], _, _, h => by have := h k; simp [get] at this
  | (k, n) :: a, (k', n') :: b, ⟨a1, a2⟩, ⟨b1, b2⟩, h => by
    have e : k = k' := by
      refine tri _ _ (fun hl => ?_) (fun hl => ?_)
      · have h1 := h k
        rw [get, if_pos rfl, get, if_neg (fun e => lt_irrefl k (by subst e; exact hl)), get_none (fun x hx => lt_trans hl (b1 x hx))] at h1
        cases h1
      · have h1 := h k'
        rw [get, if_neg (fun e => lt_irrefl k (by subst e; exact hl)), get, if_pos rfl, get_none (fun x hx => lt_trans hl (a1 x hx))] at h1
        cases h1
    subst e
    have h1 := h k
    rw [get, if_pos rfl, get, if_pos rfl] at h1
    cases h1
    rw [ext a2 b2 (fun x => ?_)]
    have h2 := h x
    rw [get, get] at h2
    by_cases c : k = x
    · subst c; rw [get_none a1, get_none b1]
    · rwa [if_neg c, if_neg c] at h2
/-- Side by side. -/
def mergeN : Nat → P → P → P
  | 0, _, _ => []
  | _ + 1, [], b => b
  | _ + 1, a, [] => a
  | d + 1, (k, n) :: a, (k', n') :: b => if k < k' then (k, n) :: mergeN d a ((k', n') :: b) else if k' < k then (k', n') :: mergeN d ((k, n) :: a) b else (k, n + n') :: mergeN d a b
def both : Option Int → Option Int → Option Int
  | none, y => y
  | x, none => x
  | some x, some y => some (x + y)
theorem both_none (x : Option Int) : both x none = x := by cases x <;> rfl
theorem mem_mergeN : ∀ {d : Nat} {a b : P} {x : K × Int}, x ∈ mergeN d a b → (∃ y ∈ a, y.1 = x.1) ∨ (∃ y ∈ b, y.1 = x.1)
  | 0, _, _, _, h => by cases h
  | _ + 1, [], b, x, h => Or.inr ⟨x, h, rfl⟩
  | _ + 1, (k, n) :: a, [], x, h => Or.inl ⟨x, h, rfl⟩
  | d + 1, (k, n) :: a, (k', n') :: b, x, h => by
    rw [mergeN] at h
    have up : ∀ {l : P} {y : K × Int} , (∃ z ∈ l, z.1 = x.1) → ∃ z ∈ y :: l, z.1 = x.1 := fun ⟨z, hz, e⟩ => ⟨z, List.mem_cons_of_mem _ hz, e⟩
    by_cases c : k < k'
    · rw [if_pos c] at h
      rcases List.mem_cons.1 h with e | e
      · exact Or.inl ⟨(k, n), List.mem_cons_self .., by rw [e]⟩
      · exact (mem_mergeN e).imp up id
    · rw [if_neg c] at h
      by_cases c' : k' < k
      · rw [if_pos c'] at h
        rcases List.mem_cons.1 h with e | e
        · exact Or.inr ⟨(k', n'), List.mem_cons_self .., by rw [e]⟩
        · exact (mem_mergeN e).imp id up
      · rw [if_neg c'] at h
        rcases List.mem_cons.1 h with e | e
        · exact Or.inl ⟨(k, n), List.mem_cons_self .., by rw [e]⟩
        · exact (mem_mergeN e).imp up up
theorem mergeN_asc : ∀ {d : Nat} {a b : P}, Asc a → Asc b → a.length + b.length ≤ d → Asc (mergeN d a b)
  | 0, _, _, _, _, _ => trivial
  | _ + 1, [], b, _, hb, _ => hb
  | _ + 1, (k, n) :: a, [], ha, _, _ => ha
  | d + 1, (k, n) :: a, (k', n') :: b, ⟨a1, a2⟩, ⟨b1, b2⟩, hd => by
    simp only [List.length_cons] at hd
    rw [mergeN]
    by_cases c : k < k'
    · rw [if_pos c]
      refine ⟨fun x hx => ?_, mergeN_asc a2 ⟨b1, b2⟩ (by simp only [List.length_cons]; omega)⟩
      rcases mem_mergeN hx with ⟨y, hy, e⟩ | ⟨y, hy, e⟩
      · exact e ▸ a1 y hy
      · rcases List.mem_cons.1 hy with e' | e'
        · subst e'; exact e ▸ c
        · exact e ▸ lt_trans c (b1 y e')
    · rw [if_neg c]
      by_cases c' : k' < k
      · rw [if_pos c']
        refine ⟨fun x hx => ?_, mergeN_asc ⟨a1, a2⟩ b2 (by simp only [List.length_cons]; omega)⟩
        rcases mem_mergeN hx with ⟨y, hy, e⟩ | ⟨y, hy, e⟩
        · rcases List.mem_cons.1 hy with e' | e'
          · subst e'; exact e ▸ c'
          · exact e ▸ lt_trans c' (a1 y e')
        · exact e ▸ b1 y hy
      · rw [if_neg c']
        have ek : k = k' := tri _ _ c c'
        subst ek
        refine ⟨fun x hx => ?_, mergeN_asc a2 b2 (by omega)⟩
        rcases mem_mergeN hx with ⟨y, hy, e⟩ | ⟨y, hy, e⟩
        · exact e ▸ a1 y hy
        · exact e ▸ b1 y hy
theorem mergeN_get : ∀ {d : Nat} {a b : P}, Asc a → Asc b → a.length + b.length ≤ d → ∀ x, get (mergeN d a b) x = both (get a x) (get b x)
  | 0, [], [], _, _, _, x => rfl
  | 0, _ :: _, _, _, _, h, x => by simp at h
  | 0, [], _ :: _, _, _, h, x => by simp at h
  | _ + 1, [], b, _, hb, _, x => rfl
  | _ + 1, (k, n) :: a, [], ha, _, _, x => (both_none _).symm
  | d + 1, (k, n) :: a, (k', n') :: b, ⟨a1, a2⟩, ⟨b1, b2⟩, hd, x => by
    simp only [List.length_cons] at hd
    rw [mergeN]
    by_cases c : k < k'
    · have ih := mergeN_get (d := d) (a := a) (b := (k', n') :: b) a2 ⟨b1, b2⟩ (by simp only [List.length_cons]; omega) x
      rw [if_pos c, get, ih]
      by_cases e : k = x
      · subst e
        have h0 : get ((k', n') :: b) k = none := get_none (fun y hy => by
          rcases List.mem_cons.1 hy with e' | e'
          · subst e'; exact c
          · exact lt_trans c (b1 y e'))
        rw [if_pos rfl, h0, both_none, get, if_pos rfl]
      · rw [if_neg e]; congr 1; rw [get, if_neg e]
    · rw [if_neg c]
      by_cases c' : k' < k
      · have ih := mergeN_get (d := d) (a := (k, n) :: a) (b := b) ⟨a1, a2⟩ b2 (by simp only [List.length_cons]; omega) x
        rw [if_pos c', get, ih]
        by_cases e : k' = x
        · subst e
          have h0 : get ((k, n) :: a) k' = none := get_none (fun y hy => by
            rcases List.mem_cons.1 hy with e' | e'
            · subst e'; exact c'
            · exact lt_trans c' (a1 y e'))
          rw [if_pos rfl, h0, get, if_pos rfl]; rfl
        · rw [if_neg e]; congr 1; rw [get, if_neg e]
      · rw [if_neg c']
        have ek : k = k' := tri _ _ c c'
        subst ek
        have ih := mergeN_get (d := d) a2 b2 (by omega) x
        rw [get, get, get, ih]
        by_cases e : k = x
        · rw [if_pos e, if_pos e, if_pos e]; rfl
        · rw [if_neg e, if_neg e, if_neg e]
/-- One key put in, or its count changed. -/
def put : P → K → Int → P
  | [], x, m => [(x, m)]
  | (k, n) :: t, x, m => if k < x then (k, n) :: put t x m else if k = x then (x, m) :: t else (x, m) :: (k, n) :: t
theorem mem_put : ∀ {t : P} {x : K} {m : Int} {y : K × Int}, y ∈ put t x m → y.1 = x ∨ y ∈ t
  | [], x, m, y, h => by
    rw [put] at h
    rcases List.mem_cons.1 h with e | e
    · exact Or.inl (by rw [e])
    · cases e
  | (k, n) :: t, x, m, y, h => by
    rw [put] at h
    by_cases c : k < x
    · rw [if_pos c] at h
      rcases List.mem_cons.1 h with e | e
      · exact Or.inr (e ▸ List.mem_cons_self ..)
      · exact (mem_put e).imp id (List.mem_cons_of_mem _)
    · rw [if_neg c] at h
      by_cases c' : k = x
      · rw [if_pos c'] at h
        rcases List.mem_cons.1 h with e | e
        · exact Or.inl (by rw [e])
        · exact Or.inr (List.mem_cons_of_mem _ e)
      · rw [if_neg c'] at h
        rcases List.mem_cons.1 h with e | e
        · exact Or.inl (by rw [e])
        · exact Or.inr e
theorem put_asc : ∀ {t : P} {x : K} {m : Int}, Asc t → Asc (put t x m)
  | [], x, m, _ => ⟨fun _ h => (by cases h), trivial⟩
  | (k, n) :: t, x, m, ⟨h1, h2⟩ => by
    rw [put]
    by_cases c : k < x
    · rw [if_pos c]
      refine ⟨fun y hy => ?_, put_asc h2⟩
      rcases mem_put hy with e | e
      · exact e ▸ c
      · exact h1 y e
    · rw [if_neg c]
      by_cases c' : k = x
      · rw [if_pos c']; subst c'; exact ⟨h1, h2⟩
      · rw [if_neg c']
        have hl : x < k := by
          by_cases hl : x < k
          · exact hl
          · exact absurd (tri _ _ c hl) c'
        refine ⟨fun y hy => ?_, h1, h2⟩
        rcases List.mem_cons.1 hy with e | e
        · subst e; exact hl
        · exact lt_trans hl (h1 y e)
theorem put_get : ∀ {t : P} {x : K} {m : Int}, Asc t → ∀ y, get (put t x m) y = if x = y then some m else get t y
  | [], x, m, _, y => rfl
  | (k, n) :: t, x, m, ⟨h1, h2⟩, y => by
    rw [put]
    by_cases c : k < x
    · rw [if_pos c, get, get, put_get h2 y]
      by_cases e : k = y
      · have hne : x ≠ y := fun e' => lt_irrefl k (by rw [e, ← e'] ; exact (by rw [e, ← e'] at c; exact c))
        rw [if_pos e, if_neg hne, if_pos e]
      · rw [if_neg e, if_neg e]
    · rw [if_neg c]
      by_cases c' : k = x
      · subst c'
        rw [if_pos rfl, get, get]
        by_cases e : k = y
        · rw [if_pos e, if_pos e]
        · rw [if_neg e, if_neg e, if_neg e]
      · rw [if_neg c', get]
/-- The one put into the other, key by key. -/
def fold (M : Int) (a : P) : P → P → Option P
  | out, [] => some out
  | out, (k, n) :: b => if M < (get a k).getD 0 + n then none else fold M a (put out k ((get a k).getD 0 + n)) b
theorem fold_get (M : Int) (a : P) : ∀ (b out : P), Asc out → Asc b → ∀ r, fold M a out b = some r → Asc r ∧ (∀ x, get r x = match get b x with | some n => some ((get a x).getD 0 + n) | none => get out x) ∧ ∀ x n, get b x = some n → (get a x).getD 0 + n ≤ M
  | [], out, ho, _, r, h => by cases h; exact ⟨ho, fun _ => rfl, fun _ _ h => by cases h⟩
  | (k, n) :: b, out, ho, ⟨b1, b2⟩, r, h => by
    rw [fold] at h
    by_cases c : M < (get a k).getD 0 + n
    · rw [if_pos c] at h; cases h
    · rw [if_neg c] at h
      obtain ⟨h1, h2, h3⟩ := fold_get M a b _ (put_asc ho) b2 r h
      refine ⟨h1, fun x => ?_, fun x m hm => ?_⟩
      · rw [h2 x, put_get ho x, get]
        by_cases e : k = x
        · subst e; rw [get_none b1, if_pos rfl, if_pos rfl]
        · rw [if_neg e, if_neg e]
      · rw [get] at hm
        by_cases e : k = x
        · subst e; rw [if_pos rfl] at hm; cases hm; omega
        · rw [if_neg e] at hm; exact h3 x m hm
theorem fold_none (M : Int) (a : P) : ∀ (b out : P), Asc b → fold M a out b = none → ∃ x n, get b x = some n ∧ M < (get a x).getD 0 + n
  | [], out, _, h => by cases h
  | (k, n) :: b, out, ⟨b1, b2⟩, h => by
    rw [fold] at h
    by_cases c : M < (get a k).getD 0 + n
    · exact ⟨k, n, by rw [get, if_pos rfl], c⟩
    · rw [if_neg c] at h
      obtain ⟨x, m, h1, h2⟩ := fold_none M a b _ b2 h
      refine ⟨x, m, ?_, h2⟩
      have : k ≠ x := fun e => by subst e; rw [get_none b1] at h1; cases h1
      rw [get, if_neg this, h1]
/-- Both ways come to the same. -/
theorem fold_merge (M : Int) (a b : P) (ha : Asc a) (hb : Asc b) (hM : ∀ x ∈ a, x.2 ≤ M) (d : Nat) (hd : a.length + b.length ≤ d) :
    fold M a a b = if (mergeN d a b).any (fun x => decide (M < x.2)) then none else some (mergeN d a b) := by
  have mg := mergeN_get ha hb hd
  have ma := mergeN_asc ha hb hd
  cases h : fold M a a b with
  | none =>
    obtain ⟨x, n, h1, h2⟩ := fold_none M a b a hb h
    have : (mergeN d a b).any (fun x => decide (M < x.2)) = true := by
      have h3 := mg x
      rw [h1] at h3
      cases hx : get a x with
      | none => rw [hx] at h3 h2; exact List.any_eq_true.2 ⟨(x, n), get_mem h3, decide_eq_true (by simpa using h2)⟩
      | some m => rw [hx] at h3 h2; exact List.any_eq_true.2 ⟨(x, m + n), get_mem h3, decide_eq_true (by simpa using h2)⟩
    rw [if_pos this]
  | some r =>
    obtain ⟨h1, h2, h3⟩ := fold_get M a b a ha hb r h
    have e : r = mergeN d a b := ext h1 ma (fun x => by
      rw [h2 x, mg x]
      cases hx : get a x <;> cases hy : get b x <;> simp [both])
    have : (mergeN d a b).any (fun x => decide (M < x.2)) = false := by
      rw [List.any_eq_false]
      intro x hx
      have h4 := get_of_mem ma (k := x.1) (n := x.2) hx
      rw [mg] at h4
      rw [decide_eq_true_iff, Int.not_lt]
      cases hy : get b x.1 with
      | none => rw [hy, both_none] at h4; exact hM _ (get_mem h4)
      | some n =>
        have h5 := h3 _ _ hy
        rw [hy] at h4
        cases hz : get a x.1 with
        | none => rw [hz] at h4 h5; simp [both] at h4 h5; omega
        | some m => rw [hz] at h4 h5; simp [both] at h4 h5; omega
    rw [this, e]; rfl
end PM
namespace PM
open Go.Lib
def em : Bool → List UInt8 → Bool
  | b, [] => b
  | b, c :: t => if c = 47 then b || em true t else em false t
theorem em_part : ∀ (u t : List UInt8) (b : Bool), (47 : UInt8) ∉ u → em b (u ++ 47 :: t) = ((b && u.isEmpty) || em true t)
  | [], t, b, _ => by simp [em]
  | c :: u, t, b, h => by
    have h1 : c ≠ 47 := fun e => h (e ▸ List.mem_cons_self ..)
    have h2 : (47 : UInt8) ∉ u := fun e => h (List.mem_cons_of_mem _ e)
    rw [List.cons_append, em, if_neg h1, em_part u t false h2]
    simp
theorem em_last : ∀ (u : List UInt8) (b : Bool), (47 : UInt8) ∉ u → em b u = (b && u.isEmpty)
  | [], b, _ => by simp [em]
  | c :: u, b, h => by
    have h1 : c ≠ 47 := fun e => h (e ▸ List.mem_cons_self ..)
    have h2 : (47 : UInt8) ∉ u := fun e => h (List.mem_cons_of_mem _ e)
    rw [em, if_neg h1, em_last u false h2]
    simp
theorem occ1 (s : List UInt8) (i : Nat) : occAt s [47] i = true ↔ s[i]? = some 47 := by
  unfold occAt
  cases h : s.drop i with
  | nil => simp [List.isPrefixOf, List.drop_eq_nil_iff.1 h]
  | cons c t =>
    have : s[i]? = some c := by
      have := congrArg List.head? h
      rwa [List.head?_drop, List.head?_cons] at this
    rw [this]
    simp [List.isPrefixOf]
    exact eq_comm
theorem parts_empty : ∀ (n : Nat) (s : List UInt8), s.length ≤ n → ([] ∈ splitK [47] 0 (count s [47]) s ↔ em true s = true)
  | n, s, hn => by
    rcases index_spec s [47] with ⟨h, h1⟩ | ⟨i, h, h1, h2, h3⟩
    · have hne : (47 : UInt8) ∉ s := fun hm => by
        obtain ⟨j, hj, e⟩ := List.mem_iff_getElem.1 hm
        have := (occ1 s j).2 (by rw [List.getElem?_eq_getElem hj, e])
        rw [h1 j (by omega)] at this; cases this
      rw [count_miss h, em_last s true hne]
      cases s <;> simp [splitK]
    · have e1 : s[i]? = some 47 := (occ1 s i).1 h2
      have hi : i < s.length := by
        rcases Nat.lt_or_ge i s.length with h | h
        · exact h
        · rw [List.getElem?_eq_none h] at e1; cases e1
      have e2 : s = s.take i ++ 47 :: s.drop (i + 1) := by
        have := List.take_append_drop i s
        rw [List.drop_eq_getElem_cons hi] at this
        rw [List.getElem?_eq_getElem hi] at e1
        rw [Option.some.inj e1] at this
        exact this.symm
      have hne : (47 : UInt8) ∉ s.take i := fun hm => by
        obtain ⟨j, hj, e⟩ := List.mem_iff_getElem.1 hm
        rw [List.length_take] at hj
        have := (occ1 s j).2 (by rw [List.getElem?_eq_getElem (by omega), ← e, List.getElem_take])
        have h4 := h3 j (by omega)
        rw [this] at h4; cases h4
      match n, hn with
      | 0, hn => omega
      | n + 1, hn =>
      have ih := parts_empty n (s.drop (i + 1)) (by rw [List.length_drop]; omega)
      have hc : count s [47] = 1 + count (s.drop (i + 1)) [47] := count_hit (by simp) h
      have hs : splitK [47] 0 (count s [47]) s = s.take i :: splitK [47] 0 (count (s.drop (i + 1)) [47]) (s.drop (i + 1)) := by
        rw [hc, Nat.add_comm 1, splitK, h, if_neg (by intro e; have := beq_iff_eq.1 e; omega)]
        rfl
      rw [hs, List.mem_cons, ih]
      conv => rhs; rw [e2]
      rw [em_part _ _ _ hne]
      rw [Bool.or_eq_true, Bool.true_and, List.isEmpty_iff]
      exact or_congr eq_comm Iff.rfl
termination_by n => n
end PM
