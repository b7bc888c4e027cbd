/- A part of the proof of the tied card of ProfileMerge (chapter 53): the law returns true whatever the input. -/
import Derived.Test.YtolenfcngomdfaaGreatDoorZP1
set_option linter.unusedVariables false
set_option linter.unusedSimpArgs false
namespace Go.Proofs.YtolenfcngomdfaaGreatDoor.P
open Go Go.RowKit Go.Proofs.YtolenfcngomdfaaGreatDoorW.PrintWords Go.Proofs.YtolenfcngomdfaaGreatDoor.V
set_option linter.unusedVariables false
/-- Keys with their counts. -/
def pz (l : List ByteArray) (c : List Int) : PM.P := (l.map ByteArray.toList).zip c
theorem pz_len {l : List ByteArray} {c : List Int} (h : l.length = c.length) : (pz l c).length = l.length := by
  unfold pz; rw [List.length_zip, List.length_map, h, Nat.min_self]
theorem pz_at {l : List ByteArray} {c : List Int} (h : l.length = c.length) (i : Nat) (hi : i < l.length) : (pz l c).drop i = ((keyAt l i).toList, rd c (i : Int)) :: (pz l c).drop (i + 1) := by
  have hl : i < (pz l c).length := by rw [pz_len h]; exact hi
  rw [List.drop_eq_getElem_cons hl]
  congr 1
  have h2 : i < c.length := by omega
  simp [pz, keyAt, rdOf, rd, List.getD_eq_getElem?_getD, hi, h2]
theorem pz_end {l : List ByteArray} {c : List Int} (h : l.length = c.length) (i : Nat) (hi : l.length ≤ i) : (pz l c).drop i = [] := List.drop_eq_nil_iff.2 (by rw [pz_len h]; exact hi)
theorem pz_app {l : List ByteArray} {c : List Int} (h : l.length = c.length) (x : ByteArray) (n : Int) : pz (l ++ [x]) (c ++ [n]) = pz l c ++ [(x.toList, n)] := by
  unfold pz
  rw [List.map_append, List.zip_append (by rw [List.length_map]; exact h)]
  rfl
theorem asc_drop : ∀ (t : PM.P) (i : Nat), PM.Asc t → PM.Asc (t.drop i)
  | [], i, h => by rw [List.drop_nil]; trivial
  | _ :: _, 0, h => h
  | (k, n) :: t, i + 1, h => asc_drop t i h.2
theorem asc_lt {l : List ByteArray} {c : List Int} (h : l.length = c.length) (ha : PM.Asc (pz l c)) (i j : Nat) (hij : i < j) (hj : j < l.length) : (keyAt l i).toList < (keyAt l j).toList := by
  have h1 := asc_drop _ i ha
  rw [pz_at h i (by omega)] at h1
  refine h1.1 ((keyAt l j).toList, rd c (j : Int)) ?_
  have h2 := pz_at h j hj
  have h3 : (pz l c).drop j = ((pz l c).drop (i + 1)).drop (j - (i + 1)) := by rw [List.drop_drop]; congr 1; omega
  have h4 : ((keyAt l j).toList, rd c (j : Int)) ∈ (pz l c).drop j := by rw [h2]; exact List.mem_cons_self ..
  rw [h3] at h4
  exact List.mem_of_mem_drop h4
theorem asc_cons (k : PM.K) (n : Int) : ∀ (t : PM.P), PM.Asc t → (∀ y ∈ t.head?, k < y.1) → PM.Asc ((k, n) :: t)
  | [], _, _ => ⟨fun _ h => (by cases h), trivial⟩
  | (k', n') :: t, h, hk => by
    have h1 : k < k' := hk (k', n') rfl
    refine ⟨fun x hx => ?_, h⟩
    rcases List.mem_cons.1 hx with rfl | hx
    · exact h1
    · exact PM.lt_trans h1 (h.1 x hx)
theorem tal_asc {l : List ByteArray} {c : List Int} (h : TalOK l c) : ∀ d i, d + i = l.length → PM.Asc ((pz l c).drop i)
  | 0, i, hd => by rw [pz_end h.len i (by omega)]; trivial
  | d + 1, i, hd => by
    have ih := tal_asc h d (i + 1) (by omega)
    rw [pz_at h.len i (by omega)]
    refine asc_cons _ _ _ ih (fun y hy => ?_)
    by_cases e : i + 1 < l.length
    · rw [pz_at h.len (i + 1) e, List.head?_cons] at hy
      cases hy
      exact h.asc (i + 1) (by omega) e
    · rw [pz_end h.len (i + 1) (by omega)] at hy; cases hy
theorem tal_mem {l : List ByteArray} {c : List Int} (h : TalOK l c) : ∀ x ∈ pz l c, 1 ≤ x.2 ∧ x.2 ≤ 1000000 := by
  intro x hx
  obtain ⟨i, hi, e⟩ := List.getElem_of_mem hx
  have hi' : i < l.length := by rw [pz_len h.len] at hi; exact hi
  have h1 := pz_at h.len i hi'
  rw [List.drop_eq_getElem_cons hi, e] at h1
  injection h1 with h2
  rw [h2]
  exact h.one i hi'
/-- Get. -/
theorem get_l (l : List ByteArray) (c : List Int) (x : ByteArray) (h : l.length = c.length) (hl : l.length ≤ 5000) : ∀ d i k, d + i = l.length → d + 1 ≤ k → ancepsref50_Get.l0 k x (i : Int) l c = some ((PM.get ((pz l c).drop i) x.toList).getD 0)
  | 0, i, k, hd, hk => by
    obtain ⟨k, rfl⟩ : ∃ k', k = k' + 1 := ⟨k - 1, by omega⟩
    simp only [ancepsref50_Get.l0]; rw [if_neg (by omega), pz_end h i (by omega)]; rfl
  | d + 1, i, k, hd, hk => by
    obtain ⟨k, rfl⟩ : ∃ k', k = k' + 1 := ⟨k - 1, by omega⟩
    have ih := get_l l c x h hl d (i + 1) k (by omega) (by omega)
    have h1 : (i : Int) < (l.length : Int) := by omega
    have h2 : 0 ≤ (i : Int) := by omega
    have h3 : (i : Int) < (c.length : Int) := by omega
    simp only [ancepsref50_Get.l0, if_pos h1, if_pos h2, if_pos h3, ws1 i (by omega), ih, pz_at h i (by omega), PM.get]
    by_cases e : (keyAt l i).toList = x.toList
    · rw [if_pos e, if_pos e]; rfl
    · rw [if_neg e, if_neg e]
theorem get_f (l : List ByteArray) (c : List Int) (x : ByteArray) (h : l.length = c.length) (hl : l.length ≤ 5000) (k : Nat) (hk : 5001 ≤ k) : ancepsref50_Get.f k l c x = some ((PM.get (pz l c) x.toList).getD 0) :=
  get_l l c x h hl l.length 0 k (by omega) (by omega)
/-- set, behind the key. -/
theorem set_true (l : List ByteArray) (c : List Int) (x : ByteArray) (m : Int) (h : l.length = c.length) (hl : l.length ≤ 5000) : ∀ d i k o oc, d + i = l.length → 2 * d + 1 ≤ k → o.length = oc.length → o.length + d ≤ 60000 →
    (∀ j, i ≤ j → j < l.length → (keyAt l j).toList ≠ x.toList) → ∃ o' oc', ancepsref50_set.l0 k x m true (i : Int) l c o oc = some (o', oc') ∧ o'.length = oc'.length ∧ o'.length = o.length + d ∧ pz o' oc' = pz o oc ++ (pz l c).drop i
  | 0, i, k, o, oc, hd, hk, ho, hb, hne => by
    obtain ⟨k, rfl⟩ : ∃ k', k = k' + 1 := ⟨k - 1, by omega⟩
    simp only [ancepsref50_set.l0]; rw [if_neg (by omega), pz_end h i (by omega), List.append_nil]
    exact ⟨o, oc, rfl, ho, rfl, rfl⟩
  | d + 1, i, k, o, oc, hd, hk, ho, hb, hne => by
    obtain ⟨k, rfl⟩ : ∃ k', k = k' + 2 := ⟨k - 2, by omega⟩
    have h1 : (i : Int) < (l.length : Int) := by omega
    have h2 : 0 ≤ (i : Int) := by omega
    have h3 : (i : Int) < (c.length : Int) := by omega
    have h4 : o.length < 8796093022208 := by omega
    have h5 : oc.length < 17592186044416 := by omega
    obtain ⟨o', oc', e1, e2, e3, e4⟩ := set_true l c x m h hl d (i + 1) k (o ++ [keyAt l i]) (oc ++ [rd c (i : Int)]) (by omega) (by omega) (by simp [ho]) (by simp; omega) (fun j h1 h2 => hne j (by omega) h2)
    have h6 := hne i (by omega) (by omega)
    refine ⟨o', oc', ?_, e2, by rw [e3, List.length_append, List.length_singleton]; omega, ?_⟩
    · simp only [ancepsref50_set.l0, ancepsref50_set.j1, if_pos h1, if_pos h2, if_pos h3, if_pos h4, if_pos h5, if_neg h6, ws1 i (by omega)]
      rw [if_pos trivial, if_neg Bool.false_ne_true]
      exact e1
    · rw [e4, pz_app ho, pz_at h i (by omega), List.append_assoc]; rfl
theorem set_false (l : List ByteArray) (c : List Int) (x : ByteArray) (m : Int) (h : l.length = c.length) (hl : l.length ≤ 5000) (ha : PM.Asc (pz l c)) : ∀ d i k o oc, d + i = l.length → 2 * d + 1 ≤ k → o.length = oc.length → o.length + d ≤ 50000 →
    ∃ o' oc', ancepsref50_set.l0 k x m false (i : Int) l c o oc = some (o', oc') ∧ o'.length = oc'.length ∧ o'.length ≤ o.length + d + 1 ∧ pz o' oc' = pz o oc ++ PM.put ((pz l c).drop i) x.toList m
  | 0, i, k, o, oc, hd, hk, ho, hb => by
    obtain ⟨k, rfl⟩ : ∃ k', k = k' + 1 := ⟨k - 1, by omega⟩
    have h4 : o.length < 8796093022208 := by omega
    have h5 : oc.length < 17592186044416 := by omega
    simp only [ancepsref50_set.l0]; rw [if_neg (by omega), if_neg (by decide), if_pos h4, if_pos h5, pz_end h i (by omega)]
    exact ⟨_, _, rfl, by simp [ho], by simp, by rw [pz_app ho]; rfl⟩
  | d + 1, i, k, o, oc, hd, hk, ho, hb => by
    obtain ⟨k, rfl⟩ : ∃ k', k = k' + 2 := ⟨k - 2, by omega⟩
    have h1 : (i : Int) < (l.length : Int) := by omega
    have h2 : 0 ≤ (i : Int) := by omega
    have h3 : (i : Int) < (c.length : Int) := by omega
    have h4 : o.length < 8796093022208 := by omega
    have h5 : oc.length < 17592186044416 := by omega
    rw [pz_at h i (by omega), PM.put]
    simp only [ancepsref50_set.l0, ancepsref50_set.j1, if_pos h1, if_pos h2, if_pos h3, if_pos h4, if_pos h5, ws1 i (by omega), Option.bind_some]
    rw [if_neg (by decide : ¬ false = true), bl_lt']
    by_cases q : (keyAt l i).toList < x.toList
    · have h6 : (keyAt l i).toList ≠ x.toList := fun e => PM.lt_irrefl _ (e ▸ q)
      obtain ⟨o', oc', e1, e2, e3, e4⟩ := set_false l c x m h hl ha d (i + 1) k (o ++ [keyAt l i]) (oc ++ [rd c (i : Int)]) (by omega) (by omega) (by simp [ho]) (by simp; omega)
      refine ⟨o', oc', ?_, e2, by rw [List.length_append, List.length_singleton] at e3; omega, ?_⟩
      · rw [decide_eq_true q, Bool.not_true, if_neg Bool.false_ne_true, if_neg h6]; exact e1
      · rw [if_pos q, e4, pz_app ho, List.append_assoc]; rfl
    · rw [if_neg q, decide_eq_false q, Bool.not_false, if_pos rfl]
      have hne : ∀ j, i + 1 ≤ j → j < l.length → (keyAt l j).toList ≠ x.toList := fun j hj1 hj2 e => q (e ▸ asc_lt h ha i j (by omega) hj2)
      by_cases e : (keyAt l i).toList = x.toList
      · obtain ⟨o', oc', e1, e2, e3, e4⟩ := set_true l c x m h hl d (i + 1) k (o ++ [x]) (oc ++ [m]) (by omega) (by omega) (by simp [ho]) (by simp; omega) hne
        refine ⟨o', oc', ?_, e2, by rw [List.length_append, List.length_singleton] at e3; omega, ?_⟩
        · rw [if_pos e]; exact e1
        · rw [if_pos e, e4, pz_app ho, List.append_assoc]; rfl
      · have h7 : (o ++ [x]).length < 8796093022208 := by simp; omega
        have h8 : (oc ++ [m]).length < 17592186044416 := by simp; omega
        obtain ⟨o', oc', e1, e2, e3, e4⟩ := set_true l c x m h hl d (i + 1) k (o ++ [x] ++ [keyAt l i]) (oc ++ [m] ++ [rd c (i : Int)]) (by omega) (by omega) (by simp [ho]) (by simp; omega) hne
        refine ⟨o', oc', ?_, e2, by rw [List.length_append, List.length_append, List.length_singleton, List.length_singleton] at e3; omega, ?_⟩
        · rw [if_neg e, if_pos h7, if_pos h8]; exact e1
        · rw [if_neg e, e4, pz_app (by simp [ho]), pz_app ho, List.append_assoc, List.append_assoc]; rfl
theorem mt_toList : (⟨#[]⟩ : ByteArray).toList = [] := by rw [Lib.toList_data]
theorem set_copy (l : List ByteArray) (c : List Int) (h : TalOK l c) (k : Nat) (hk : 5000 ≤ k) : ∃ o oc, ancepsref50_set.f k l c (⟨#[]⟩ : ByteArray) 0 = some (o, oc) ∧ o.length = oc.length ∧ o.length = l.length ∧ pz o oc = pz l c := by
  obtain ⟨o, oc, e1, e2, e3, e4⟩ := set_true l c (⟨#[]⟩ : ByteArray) 0 h.len (by have := h.few; omega) l.length 0 k [] [] (by omega) (by have := h.few; omega) rfl (by have := h.few; simp; omega) (fun j _ hj => by rw [mt_toList]; exact h.full j hj)
  exact ⟨o, oc, e1, e2, by simpa using e3, by rw [e4]; rfl⟩
theorem set_put (l : List ByteArray) (c : List Int) (x : ByteArray) (m : Int) (h : l.length = c.length) (hl : l.length ≤ 5000) (ha : PM.Asc (pz l c)) (hm : m ≠ 0) (k : Nat) (hk : 10001 ≤ k) :
    ∃ o oc, ancepsref50_set.f k l c x m = some (o, oc) ∧ o.length = oc.length ∧ o.length ≤ l.length + 1 ∧ pz o oc = PM.put (pz l c) x.toList m := by
  obtain ⟨o, oc, e1, e2, e3, e4⟩ := set_false l c x m h hl ha l.length 0 k [] [] (by omega) (by omega) rfl (by simp; omega)
  refine ⟨o, oc, ?_, e2, by simpa using e3, by rw [e4]; rfl⟩
  unfold ancepsref50_set.f
  rw [show (m == 0) = false from beq_eq_false_iff_ne.2 hm]
  exact e1
theorem wsum {a b : Int} (h1 : 0 ≤ a) (h2 : a ≤ 1000000) (h3 : 1 ≤ b) (h4 : b ≤ 1000000) : wrap64 (a + b) = a + b := by unfold wrap64; omega
/-- What the document's loop answers. -/
theorem refMerge_l (la : List ByteArray) (ca : List Int) (lb : List ByteArray) (cb : List Int) (hA : TalOK la ca) (hB : TalOK lb cb) : ∀ d i k o oc, d + i = lb.length → d + 11000 ≤ k → o.length = oc.length → o.length ≤ 2000 + i → PM.Asc (pz o oc) →
    (PM.fold 1000000 (pz la ca) (pz o oc) ((pz lb cb).drop i) = none ∧ ancepsref50_Merge.l0 k (i : Int) la ca lb cb o oc = some (([] : List ByteArray), ([] : List Int), 3)) ∨
    ∃ o' oc', PM.fold 1000000 (pz la ca) (pz o oc) ((pz lb cb).drop i) = some (pz o' oc') ∧ o'.length = oc'.length ∧
      ancepsref50_Merge.l0 k (i : Int) la ca lb cb o oc = some (if (o'.length : Int) > 2000 then (([] : List ByteArray), ([] : List Int), 3) else (o', oc', 0))
  | 0, i, k, o, oc, hd, hk, ho, hb, ha => by
    obtain ⟨k, rfl⟩ : ∃ k', k = k' + 1 := ⟨k - 1, by omega⟩
    refine .inr ⟨o, oc, by rw [pz_end hB.len i (by omega)]; rfl, ho, ?_⟩
    simp only [ancepsref50_Merge.l0]; rw [if_neg (by omega)]
    by_cases e : (o.length : Int) > 2000
    · rw [if_pos e, if_pos e]
    · rw [if_neg e, if_neg e]
  | d + 1, i, k, o, oc, hd, hk, ho, hb, ha => by
    obtain ⟨k, rfl⟩ : ∃ k', k = k' + 1 := ⟨k - 1, by omega⟩
    have hfb := hB.few
    have h1 : (i : Int) < (lb.length : Int) := by omega
    have h2 : 0 ≤ (i : Int) := by omega
    have h3 : (i : Int) < (cb.length : Int) := by have := hB.len; omega
    have hn := hB.one i (by omega)
    have ht : 0 ≤ (PM.get (pz la ca) (keyAt lb i).toList).getD 0 ∧ (PM.get (pz la ca) (keyAt lb i).toList).getD 0 ≤ 1000000 := by
      cases e : PM.get (pz la ca) (keyAt lb i).toList with
      | none => exact ⟨by decide, by decide⟩
      | some n => have := tal_mem hA _ (PM.get_mem e); simp only [Option.getD_some]; omega
    rw [pz_at hB.len i (by omega)]
    simp only [ancepsref50_Merge.l0, if_pos h1, if_pos h2, if_pos h3, ws1 i (by omega), get_f la ca (keyAt lb i) hA.len (by have := hA.few; omega) k (by omega), Option.bind_some, wsum ht.1 ht.2 hn.1 hn.2, PM.fold]
    by_cases e : 1000000 < (PM.get (pz la ca) (keyAt lb i).toList).getD 0 + rd cb (i : Int)
    · exact .inl ⟨by rw [if_pos e], by rw [if_pos e]⟩
    · obtain ⟨o2, oc2, e1, e2, e3, e4⟩ := set_put o oc (keyAt lb i) ((PM.get (pz la ca) (keyAt lb i).toList).getD 0 + rd cb (i : Int)) ho (by omega) ha (by omega) k (by omega)
      have ih := refMerge_l la ca lb cb hA hB d (i + 1) k o2 oc2 (by omega) (by omega) e2 (by omega) (by rw [e4]; exact PM.put_asc ha)
      rw [e4] at ih
      have e5 : ¬ (PM.get (pz la ca) (keyAt lb i).toList).getD 0 + rd cb (i : Int) > 1000000 := e
      rw [if_neg e, if_neg e5, e1, Option.bind_some]
      exact ih
/-- The program's loop. -/
theorem large_f (o : List ByteArray) (oc : List Int) (ho : o.length = oc.length) (hb : o.length ≤ 50000) : tally_large.f o oc = some (decide ((2000 : Int) < (o.length : Int)) || (pz o oc).any (fun x => decide (1000000 < x.2))) := by
  unfold tally_large.f
  rw [if_pos (by omega)]
  congr 2
  have : oc = (pz o oc).map (·.2) := by
    unfold pz
    rw [show (fun x : PM.K × Int => x.2) = Prod.snd from rfl, List.map_snd_zip (by rw [List.length_map]; omega)]
  conv => lhs; rw [this]
  rw [List.any_map]
  rfl
def fin (o : List ByteArray) (oc : List Int) : List ByteArray × List Int × Int := if (decide ((2000 : Int) < (o.length : Int)) || (pz o oc).any (fun x => decide (1000000 < x.2))) = true then (([] : List ByteArray), ([] : List Int), 3) else (o, oc, 0)
theorem ourMerge_l (la : List ByteArray) (ca : List Int) (lb : List ByteArray) (cb : List Int) (hA : TalOK la ca) (hB : TalOK lb cb) : ∀ d i j k o oc D, d + i + j = la.length + lb.length → i ≤ la.length → j ≤ lb.length → 3 * d + 3 ≤ k → d + 1 ≤ D → o.length = oc.length → o.length + d ≤ 50000 →
    ∃ o' oc', tally_Merge.l0 k (i : Int) (j : Int) la ca lb cb o oc = some (fin o' oc') ∧ o'.length = oc'.length ∧ pz o' oc' = pz o oc ++ PM.mergeN D ((pz la ca).drop i) ((pz lb cb).drop j)
  | 0, i, j, k, o, oc, D, hd, hi, hj, hk, hD, ho, hb => by
    obtain ⟨k, rfl⟩ : ∃ k', k = k' + 3 := ⟨k - 3, by omega⟩
    obtain ⟨D, rfl⟩ : ∃ D', D = D' + 1 := ⟨D - 1, by omega⟩
    refine ⟨o, oc, ?_, ho, by rw [pz_end hA.len i (by omega), pz_end hB.len j (by omega)]; simp [PM.mergeN]⟩
    simp only [tally_Merge.l0, tally_Merge.j1]
    rw [if_neg (by omega), decide_eq_false (by omega), if_neg Bool.false_ne_true, large_f o oc ho (by omega), Option.bind_some]
    unfold fin
    generalize (decide ((2000 : Int) < (o.length : Int)) || (pz o oc).any (fun x => decide (1000000 < x.2))) = b
    cases b <;> rfl
  | d + 1, i, j, k, o, oc, D, hd, hi, hj, hk, hD, ho, hb => by
    obtain ⟨k, rfl⟩ : ∃ k', k = k' + 3 := ⟨k - 3, by omega⟩
    obtain ⟨D, rfl⟩ : ∃ D', D = D' + 1 := ⟨D - 1, by omega⟩
    have fa := hA.few
    have fb := hB.few
    have la' := hA.len
    have lb' := hB.len
    have z1 : 0 ≤ (i : Int) := by omega
    have z2 : 0 ≤ (j : Int) := by omega
    have z3 : o.length + 1 < 8796093022208 := by omega
    have z4 : oc.length + 1 < 17592186044416 := by omega
    have hi5 : i ≤ 100000 := by omega
    have hj5 : j ≤ 100000 := by omega
    -- the three ways on
    have goA : i < la.length → ∀ E, d + 1 ≤ E → ∃ o' oc', tally_Merge.l0 k ((i + 1 : Nat) : Int) (j : Int) la ca lb cb (o ++ [keyAt la i]) (oc ++ [rd ca (i : Int)]) = some (fin o' oc') ∧ o'.length = oc'.length ∧ pz o' oc' = pz o oc ++ ((keyAt la i).toList, rd ca (i : Int)) :: PM.mergeN E ((pz la ca).drop (i + 1)) ((pz lb cb).drop j) := fun hlt E hE => by
      obtain ⟨o', oc', e1, e2, e3⟩ := ourMerge_l la ca lb cb hA hB d (i + 1) j k (o ++ [keyAt la i]) (oc ++ [rd ca (i : Int)]) E (by omega) (by omega) (by omega) (by omega) (by omega) (by simp [ho]) (by simp; omega)
      exact ⟨o', oc', e1, e2, by rw [e3, pz_app ho, List.append_assoc]; rfl⟩
    have goB : j < lb.length → ∀ E, d + 1 ≤ E → ∃ o' oc', tally_Merge.l0 k (i : Int) ((j + 1 : Nat) : Int) la ca lb cb (o ++ [keyAt lb j]) (oc ++ [rd cb (j : Int)]) = some (fin o' oc') ∧ o'.length = oc'.length ∧ pz o' oc' = pz o oc ++ ((keyAt lb j).toList, rd cb (j : Int)) :: PM.mergeN E ((pz la ca).drop i) ((pz lb cb).drop (j + 1)) := fun hlt E hE => by
      obtain ⟨o', oc', e1, e2, e3⟩ := ourMerge_l la ca lb cb hA hB d i (j + 1) k (o ++ [keyAt lb j]) (oc ++ [rd cb (j : Int)]) E (by omega) (by omega) (by omega) (by omega) (by omega) (by simp [ho]) (by simp; omega)
      exact ⟨o', oc', e1, e2, by rw [e3, pz_app ho, List.append_assoc]; rfl⟩
    have goT : ∀ b : Bool, tally_Merge.j1 (k + 2) (i : Int) (j : Int) true la ca lb cb o oc = tally_Merge.l0 (k + 3) (i : Int) (j : Int) la ca lb cb o oc := fun b => by
      simp only [tally_Merge.l0]
      by_cases e : (i : Int) < (la.length : Int)
      · rw [if_pos e]
      · rw [if_neg e, decide_eq_true (by omega)]
    rw [← goT true]
    by_cases ej : j = lb.length
    · -- the second list is at its end
      have hlt : i < la.length := by omega
      have z5 : (i : Int) < (la.length : Int) := by omega
      have z6 : (i : Int) < (ca.length : Int) := by omega
      obtain ⟨o', oc', e1, e2, e3⟩ := goA hlt (d + 1) (by omega)
      refine ⟨o', oc', ?_, e2, ?_⟩
      · simp only [tally_Merge.j1, tally_Merge.j2]
        rw [if_pos trivial, if_pos (by omega), if_pos trivial, if_pos z1, if_pos z5, Option.bind_some, List.length_singleton, if_pos z3, if_pos z6, Option.bind_some, List.length_singleton, if_pos z4, ws1 i hi5]
        exact e1
      · rw [e3, pz_end hB.len j (by omega), pz_at hA.len i hlt]
        congr 1
        cases (pz la ca).drop (i + 1) <;> rfl
    · have z7 : (j : Int) < (lb.length : Int) := by omega
      have z8 : (j : Int) < (cb.length : Int) := by omega
      have hltb : j < lb.length := by omega
      by_cases ei : i = la.length
      · obtain ⟨o', oc', e1, e2, e3⟩ := goB hltb (d + 1) (by omega)
        refine ⟨o', oc', ?_, e2, ?_⟩
        · simp only [tally_Merge.j1, tally_Merge.j2]
          rw [if_pos trivial, if_neg (by omega), if_neg (by omega), if_neg Bool.false_ne_true, if_pos (by omega), if_pos z2, if_pos z7, Option.bind_some, List.length_singleton, if_pos z3, if_pos z8, Option.bind_some, List.length_singleton, if_pos z4, ws1 j hj5]
          exact e1
        · rw [e3, pz_end hA.len i (by omega), pz_at hB.len j hltb]
          rfl
      · have hlta : i < la.length := by omega
        have z5 : (i : Int) < (la.length : Int) := by omega
        have z6 : (i : Int) < (ca.length : Int) := by omega
        rw [pz_at hA.len i hlta, pz_at hB.len j hltb, PM.mergeN, ← pz_at hA.len i hlta, ← pz_at hB.len j hltb]
        simp only [tally_Merge.j1]
        rw [if_pos trivial, if_neg (by omega), if_pos z5, if_pos z1, if_pos z2, if_pos z7, bl_lt']
        by_cases q : (keyAt la i).toList < (keyAt lb j).toList
        · obtain ⟨o', oc', e1, e2, e3⟩ := goA hlta D (by omega)
          refine ⟨o', oc', ?_, e2, by rw [if_pos q]; exact e3⟩
          rw [decide_eq_true q]
          simp only [tally_Merge.j2]
          rw [if_pos trivial, if_pos z1, if_pos z5, Option.bind_some, List.length_singleton, if_pos z3, if_pos z6, Option.bind_some, List.length_singleton, if_pos z4, ws1 i hi5]
          exact e1
        · rw [if_neg q, decide_eq_false q]
          simp only [tally_Merge.j2]
          rw [if_neg Bool.false_ne_true, if_neg (by omega), if_pos z2, if_pos z7, if_pos z1, if_pos z5, bl_lt']
          by_cases q2 : (keyAt lb j).toList < (keyAt la i).toList
          · obtain ⟨o', oc', e1, e2, e3⟩ := goB hltb D (by omega)
            refine ⟨o', oc', ?_, e2, by rw [if_pos q2]; exact e3⟩
            rw [decide_eq_true q2, if_pos rfl, Option.bind_some, List.length_singleton, if_pos z3, if_pos z8, Option.bind_some, List.length_singleton, if_pos z4, ws1 j hj5]
            exact e1
          · have h1 := hA.one i hlta
            have h2 := hB.one j hltb
            by_cases hd0 : d = 0
            · omega
            · obtain ⟨o', oc', e1, e2, e3⟩ := ourMerge_l la ca lb cb hA hB (d - 1) (i + 1) (j + 1) k (o ++ [keyAt la i]) (oc ++ [rd ca (i : Int) + rd cb (j : Int)]) D (by omega) (by omega) (by omega) (by omega) (by omega) (by simp [ho]) (by simp; omega)
              refine ⟨o', oc', ?_, e2, by rw [if_neg q2, e3, pz_app ho, List.append_assoc]; rfl⟩
              rw [decide_eq_false q2, if_neg Bool.false_ne_true, Option.bind_some, List.length_singleton, if_pos z3, if_pos z6, if_pos z8, Option.bind_some, List.length_singleton, if_pos z4, ws1 i hi5, ws1 j hj5, wsum (by omega) h1.2 h2.1 h2.2]
              exact e1
end Go.Proofs.YtolenfcngomdfaaGreatDoor.P
namespace Go.Proofs.YtolenfcngomdfaaGreatDoor.P
open Go Go.RowKit Go.Proofs.YtolenfcngomdfaaGreatDoorW.PrintWords Go.Proofs.YtolenfcngomdfaaGreatDoor.V
set_option linter.unusedVariables false
theorem pz_fst {l : List ByteArray} {c : List Int} (h : l.length = c.length) : (pz l c).map (·.1) = l.map ByteArray.toList := by
  unfold pz
  rw [show (fun x : PM.K × Int => x.1) = Prod.fst from rfl, List.map_fst_zip (by rw [List.length_map]; omega)]
theorem pz_snd {l : List ByteArray} {c : List Int} (h : l.length = c.length) : (pz l c).map (·.2) = c := by
  unfold pz
  rw [show (fun x : PM.K × Int => x.2) = Prod.snd from rfl, List.map_snd_zip (by rw [List.length_map]; omega)]
theorem talMerge (la : List ByteArray) (ca : List Int) (lb : List ByteArray) (cb : List Int) (hA : TalOK la ca) (hB : TalOK lb cb) (eA : talErr la ca = 0) (eB : talErr lb cb = 0) (k : Nat) (hk : 20000 ≤ k) :
    ∃ o oc o' e, tally_Merge.f k la ca lb cb = some (o, oc, e) ∧ ancepsref50_Merge.f k la ca lb cb = some (o', oc, e) ∧ o.map ByteArray.toList = o'.map ByteArray.toList ∧ o.length ≤ 4000 ∧ oc.length ≤ 4000 := by
  have fa := hA.few
  have fb := hB.few
  have t1 : tally_Merge.f k la ca lb cb = tally_Merge.l0 k 0 0 la ca lb cb [] [] := by
    unfold tally_Merge.f tally_both.f
    rw [talO la ca k (by omega), talO lb cb k (by omega), eA, eB]; rfl
  obtain ⟨s, sc, hs, hs1, hs2, hs3⟩ := set_copy la ca hA k (by omega)
  have t2 : ancepsref50_Merge.f k la ca lb cb = ancepsref50_Merge.l0 k 0 la ca lb cb s sc := by
    unfold ancepsref50_Merge.f ancepsref50_both.f
    rw [talR la ca k (by omega), talR lb cb k (by omega), eA, eB]
    simp only [Option.bind_some]
    rw [if_pos trivial, Option.bind_some, if_pos rfl, hs, Option.bind_some]
  have ascA : PM.Asc (pz la ca) := tal_asc hA la.length 0 (by omega)
  have ascB : PM.Asc (pz lb cb) := tal_asc hB lb.length 0 (by omega)
  obtain ⟨o, oc, e1, e2, e3⟩ := ourMerge_l la ca lb cb hA hB (la.length + lb.length) 0 0 k [] [] (la.length + lb.length + 1) (by omega) (by omega) (by omega) (by omega) (by omega) rfl (by simp; omega)
  have r1 := refMerge_l la ca lb cb hA hB lb.length 0 k s sc (by omega) (by omega) hs1 (by omega) (by rw [hs3]; exact ascA)
  rw [hs3, List.drop_zero] at r1
  rw [List.drop_zero, List.drop_zero] at e3
  have e3 : pz o oc = PM.mergeN (la.length + lb.length + 1) (pz la ca) (pz lb cb) := e3
  have fm := PM.fold_merge 1000000 (pz la ca) (pz lb cb) ascA ascB (fun x hx => (tal_mem hA x hx).2) (la.length + lb.length + 1) (by rw [pz_len hA.len, pz_len hB.len]; omega)
  rw [← e3] at fm
  have e1 : tally_Merge.f k la ca lb cb = some (fin o oc) := by rw [t1]; exact e1
  have r1 : (PM.fold 1000000 (pz la ca) (pz la ca) (pz lb cb) = none ∧ ancepsref50_Merge.f k la ca lb cb = some (([] : List ByteArray), ([] : List Int), 3)) ∨
    ∃ o' oc', PM.fold 1000000 (pz la ca) (pz la ca) (pz lb cb) = some (pz o' oc') ∧ o'.length = oc'.length ∧ ancepsref50_Merge.f k la ca lb cb = some (if (o'.length : Int) > 2000 then (([] : List ByteArray), ([] : List Int), 3) else (o', oc', 0)) := by rw [t2]; exact r1
  unfold fin at e1
  cases hany : (pz o oc).any (fun x => decide (1000000 < x.2)) with
  | true =>
    rw [hany] at fm e1
    rw [Bool.or_true, if_pos rfl] at e1
    rw [if_pos rfl] at fm
    rcases r1 with ⟨_, r1⟩ | ⟨o', oc', r0, _, _⟩
    · exact ⟨_, _, _, _, e1, r1, rfl, by simp, by simp⟩
    · rw [fm] at r0; cases r0
  | false =>
    rw [hany] at fm e1
    rw [if_neg Bool.false_ne_true] at fm
    rw [Bool.or_false] at e1
    rcases r1 with ⟨r0, _⟩ | ⟨o', oc', r0, r2, r3⟩
    · rw [fm] at r0; cases r0
    · rw [fm] at r0
      have hp : pz o oc = pz o' oc' := Option.some.inj r0
      have hk' : o.map ByteArray.toList = o'.map ByteArray.toList := by rw [← pz_fst e2, ← pz_fst r2, hp]
      have hc : oc = oc' := by rw [← pz_snd e2, ← pz_snd r2, hp]
      have hl : o.length = o'.length := by have := congrArg List.length hk'; simpa using this
      subst hc
      by_cases c : (o'.length : Int) > 2000
      · have c' : (2000 : Int) < (o.length : Int) := by omega
        rw [decide_eq_true c', if_pos rfl] at e1
        rw [if_pos c] at r3
        exact ⟨_, _, _, _, e1, r3, rfl, by simp, by simp⟩
      · have c' : ¬ (2000 : Int) < (o.length : Int) := by omega
        rw [decide_eq_false c', if_neg Bool.false_ne_true] at e1
        rw [if_neg c] at r3
        exact ⟨_, _, _, _, e1, r3, hk', by omega, by omega⟩
/-- Same, where all is the same. -/
theorem keyAt_map {o o' : List ByteArray} (h : o.map ByteArray.toList = o'.map ByteArray.toList) (i : Nat) (hi : i < o.length) : (keyAt o i).toList = (keyAt o' i).toList := by
  have hl : o.length = o'.length := by have := congrArg List.length h; simpa using this
  have h2 : i < o'.length := by omega
  have := congrArg (·[i]?) h
  simp only [List.getElem?_map, List.getElem?_eq_getElem hi, List.getElem?_eq_getElem h2, Option.map_some, Option.some.injEq] at this
  simp [keyAt, rdOf, List.getD_eq_getElem?_getD, hi, h2, this]
theorem same1 (l l' : List ByteArray) (c : List Int) (hc : c.length ≤ 5000) : ∀ d i k, d + i = c.length → d + 1 ≤ k → ancepsref50_Same.l1 k (i : Int) l c l' c = some true
  | 0, i, k, hd, hk => by
    obtain ⟨k, rfl⟩ : ∃ k', k = k' + 1 := ⟨k - 1, by omega⟩
    simp only [ancepsref50_Same.l1]; rw [if_neg (by omega)]
  | d + 1, i, k, hd, hk => by
    obtain ⟨k, rfl⟩ : ∃ k', k = k' + 1 := ⟨k - 1, by omega⟩
    have ih := same1 l l' c hc d (i + 1) k (by omega) (by omega)
    have h1 : (i : Int) < (c.length : Int) := by omega
    have h2 : 0 ≤ (i : Int) := by omega
    simp only [ancepsref50_Same.l1, ws1 i (by omega)]
    rw [if_pos h1, if_pos h2, if_pos h1, if_pos trivial, ih]
theorem same0 (l l' : List ByteArray) (c : List Int) (hc : c.length ≤ 5000) (hl : l.length ≤ 5000) (h : l.map ByteArray.toList = l'.map ByteArray.toList) : ∀ d i k, d + i = l.length → d + 5100 ≤ k → ancepsref50_Same.l0 k (i : Int) l c l' c = some true
  | 0, i, k, hd, hk => by
    obtain ⟨k, rfl⟩ : ∃ k', k = k' + 1 := ⟨k - 1, by omega⟩
    simp only [ancepsref50_Same.l0]; rw [if_neg (by omega)]
    exact same1 l l' c hc c.length 0 k (by omega) (by omega)
  | d + 1, i, k, hd, hk => by
    obtain ⟨k, rfl⟩ : ∃ k', k = k' + 1 := ⟨k - 1, by omega⟩
    have hl' : l.length = l'.length := by have := congrArg List.length h; simpa using this
    have ih := same0 l l' c hc hl h d (i + 1) k (by omega) (by omega)
    have h1 : (i : Int) < (l.length : Int) := by omega
    have h3 : (i : Int) < (l'.length : Int) := by omega
    have h2 : 0 ≤ (i : Int) := by omega
    simp only [ancepsref50_Same.l0, ws1 i (by omega)]
    rw [if_pos h1, if_pos h2, if_pos h3, if_pos (keyAt_map h i (by omega)), ih]
theorem same50 (l l' : List ByteArray) (c : List Int) (hc : c.length ≤ 5000) (hl : l.length ≤ 5000) (h : l.map ByteArray.toList = l'.map ByteArray.toList) (k : Nat) (hk : 11000 ≤ k) : ancepsref50_Same.f k l c l' c = some true := by
  have hl' : l.length = l'.length := by have := congrArg List.length h; simpa using this
  obtain ⟨k, rfl⟩ : ∃ k', k = k' + 1 := ⟨k - 1, by omega⟩
  unfold ancepsref50_Same.f
  rw [if_pos (by omega), bne_self_eq_false]
  simp only [ancepsref50_Same.j0]
  rw [if_neg Bool.false_ne_true]
  exact same0 l l' c hc hl h l.length 0 k (by omega) (by omega)
theorem same53_l (nm : ByteArray) (ls : List S72) (l l' : List ByteArray) (c : List Int) (hs : ls.length ≤ 5000) : ∀ d i k, d + i = ls.length → d + 1 ≤ k → ancepsref53_Same.l0 k (i : Int) nm ls l c nm ls l' c = some true
  | 0, i, k, hd, hk => by
    obtain ⟨k, rfl⟩ : ∃ k', k = k' + 1 := ⟨k - 1, by omega⟩
    simp only [ancepsref53_Same.l0]; rw [if_neg (by omega)]
  | d + 1, i, k, hd, hk => by
    obtain ⟨k, rfl⟩ : ∃ k', k = k' + 1 := ⟨k - 1, by omega⟩
    have ih := same53_l nm ls l l' c hs d (i + 1) k (by omega) (by omega)
    have h1 : (i : Int) < (ls.length : Int) := by omega
    have h2 : 0 ≤ (i : Int) := by omega
    simp only [ancepsref53_Same.l0, ws1 i (by omega), beq_self_eq_true, Bool.not_true, Bool.or_false]
    rw [if_pos h1, if_pos h2, if_pos h1, if_neg Bool.false_ne_true, ih]
theorem same53 (nm : ByteArray) (ls : List S72) (l l' : List ByteArray) (c : List Int) (hs : ls.length ≤ 5000) (hc : c.length ≤ 5000) (hl : l.length ≤ 5000) (h : l.map ByteArray.toList = l'.map ByteArray.toList) (k : Nat) (hk : 12000 ≤ k) : ancepsref53_Same.f k nm ls l c nm ls l' c = some true := by
  unfold ancepsref53_Same.f
  rw [if_pos rfl, if_pos rfl, same50 l l' c hc hl h k (by omega), Option.bind_some, Bool.not_true]
  obtain ⟨k, rfl⟩ : ∃ k', k = k' + 1 := ⟨k - 1, by omega⟩
  simp only [ancepsref53_Same.j0]
  rw [if_neg Bool.false_ne_true]
  exact same53_l nm ls l l' c hs ls.length 0 k (by omega) (by omega)
/-- Merge: the same error, and the same profile. -/
theorem merge (na : ByteArray) (sa : List S72) (la : List ByteArray) (ca : List Int) (nb : ByteArray) (sb : List S72) (lb : List ByteArray) (cb : List Int) (k : Nat) (hk : 30000 ≤ k) :
    ∃ p ps pl pc ql e, profile_Merge.f k na sa la ca nb sb lb cb = some (p, ps, pl, pc, e) ∧ ancepsref53_Merge.f k na sa la ca nb sb lb cb = some (p, ps, ql, pc, e) ∧ ancepsref53_Same.f k p ps pl pc p ps ql pc = some true := by
  have pB : profile_both.f k na sa la ca nb sb lb cb = some (if proErr na sa la ca = 0 then proErr nb sb lb cb else proErr na sa la ca) := by
    unfold profile_both.f
    rw [proO _ _ _ _ k (by omega), proO _ _ _ _ k (by omega), Option.bind_some, Option.bind_some]
    by_cases e : proErr na sa la ca = 0
    · rw [if_pos e, if_pos e]
    · rw [if_neg e, if_neg e]
  have rB : ancepsref53_both.f k na sa la ca nb sb lb cb = some (if proErr na sa la ca = 0 then proErr nb sb lb cb else proErr na sa la ca) := by
    unfold ancepsref53_both.f
    rw [proR _ _ _ _ k (by omega), proR _ _ _ _ k (by omega), Option.bind_some, Option.bind_some]
    by_cases e : proErr na sa la ca = 0
    · rw [if_pos e, if_pos e]
    · rw [if_neg e, if_neg e]
  unfold profile_Merge.f ancepsref53_Merge.f
  rw [pB, rB, Option.bind_some, Option.bind_some]
  have s0 : ancepsref53_Same.f k (⟨#[]⟩ : ByteArray) [] [] [] (⟨#[]⟩ : ByteArray) [] [] [] = some true := same53 _ _ _ _ _ (by simp) (by simp) (by simp) rfl k (by omega)
  by_cases eA : proErr na sa la ca = 0
  · rw [if_pos eA]
    by_cases eB : proErr nb sb lb cb = 0
    · obtain ⟨h1, h2⟩ := proErr_zero eA
      obtain ⟨h3, h4⟩ := proErr_zero eB
      have hw : wrap64 ((sa.length : Int) + (sb.length : Int)) = (sa.length : Int) + (sb.length : Int) := by unfold wrap64; omega
      rw [if_pos eB, hw]
      clear hw
      by_cases c : (sa.length : Int) + (sb.length : Int) > 200
      · rw [if_pos c, if_pos eB, if_pos c]
        exact ⟨_, _, _, _, _, _, rfl, rfl, s0⟩
      · obtain ⟨o, oc, o', e, e1, e2, e3, e4, e5⟩ := talMerge la ca lb cb (talErr_zero _ _ h2) (talErr_zero _ _ h4) h2 h4 k (by omega)
        rw [if_neg c, if_pos eB, if_neg c, e1, e2, Option.bind_some, Option.bind_some]
        by_cases ez : e = 0
        · have hv : api_Verse_22.f sa sb = some (sa ++ sb) := by unfold api_Verse_22.f; rw [if_pos (by omega)]
          have g1 : ([] : List S72).length + sa.length < 4398046511104 := by simp; omega
          have g2 : ([] ++ sa : List S72).length + sb.length < 4398046511104 := by simp; omega
          simp only []
          rw [if_pos ez, if_pos ez, hv, Option.bind_some, Option.bind_some, if_pos g1, Option.bind_some, if_pos g2]
          exact ⟨_, _, _, _, _, _, rfl, rfl, same53 _ _ _ _ _ (by simp; omega) (by omega) (by omega) e3 k (by omega)⟩
        · simp only []
          rw [if_neg ez, if_neg ez]
          exact ⟨_, _, _, _, _, _, rfl, rfl, s0⟩
    · rw [if_neg eB, if_neg eB]
      exact ⟨_, _, _, _, _, _, rfl, rfl, s0⟩
  · rw [if_neg eA, if_neg eA, if_neg eA]
    exact ⟨_, _, _, _, _, _, rfl, rfl, s0⟩
/-- Few answers, and says that there is not much. -/
theorem few50_l (l : List ByteArray) (c : List Int) (hl : l.length ≤ 2010) : ∀ d i k x, d + i = l.length → d + 1 ≤ k → ∃ b, ancepsref50_Few.l0 k x (i : Int) l c = some b
  | 0, i, k, x, hd, hk => by
    obtain ⟨k, rfl⟩ : ∃ k', k = k' + 1 := ⟨k - 1, by omega⟩
    simp only [ancepsref50_Few.l0]; rw [if_neg (by omega)]; exact ⟨_, rfl⟩
  | d + 1, i, k, x, hd, hk => by
    obtain ⟨k, rfl⟩ : ∃ k', k = k' + 1 := ⟨k - 1, by omega⟩
    have h1 : (i : Int) < (l.length : Int) := by omega
    have h2 : 0 ≤ (i : Int) := by omega
    simp only [ancepsref50_Few.l0, ws1 i (by omega)]
    rw [if_pos h1, if_pos h2]
    exact few50_l l c hl d (i + 1) k _ (by omega) (by omega)
theorem few50 (l : List ByteArray) (c : List Int) (k : Nat) (hk : 3000 ≤ k) : ∃ b, ancepsref50_Few.f k l c = some b ∧ (b = true → l.length ≤ 2010 ∧ c.length ≤ 2020) := by
  obtain ⟨k, rfl⟩ : ∃ k', k = k' + 1 := ⟨k - 1, by omega⟩
  have jt : ancepsref50_Few.j0 (k + 1) true l c = some false := by simp only [ancepsref50_Few.j0]; rw [if_pos trivial]
  have jf : ∀ hl : ¬ (l.length : Int) > 2010, ∃ b, ancepsref50_Few.j0 (k + 1) (decide ((c.length : Int) > 2020)) l c = some b ∧ (b = true → l.length ≤ 2010 ∧ c.length ≤ 2020) := by
    intro hl
    by_cases e : (c.length : Int) > 2020
    · rw [decide_eq_true e, jt]; exact ⟨_, rfl, fun h => by cases h⟩
    · rw [decide_eq_false e]
      simp only [ancepsref50_Few.j0]
      rw [if_neg Bool.false_ne_true]
      obtain ⟨b, hb⟩ := few50_l l c (by omega) l.length 0 k 0 (by omega) (by omega)
      exact ⟨b, hb, fun _ => ⟨by omega, by omega⟩⟩
  unfold ancepsref50_Few.f
  by_cases e1 : (l.length : Int) > 60
  · rw [if_pos e1]
    by_cases e2 : (l.length : Int) ≤ 2000
    · rw [if_pos e2, jt]; exact ⟨_, rfl, fun h => by cases h⟩
    · rw [if_neg e2]
      by_cases e3 : (l.length : Int) > 2010
      · rw [if_pos e3, jt]; exact ⟨_, rfl, fun h => by cases h⟩
      · rw [if_neg e3]; exact jf e3
  · rw [if_neg e1]
    by_cases e3 : (l.length : Int) > 2010
    · rw [if_pos e3, jt]; exact ⟨_, rfl, fun h => by cases h⟩
    · rw [if_neg e3]; exact jf e3
theorem wsB (i : Nat) (h : i + 1 ≤ 9223372036854775807) : wrap64 ((i : Int) + 1) = ((i + 1 : Nat) : Int) := by unfold wrap64; omega
theorem few53_l (nm : ByteArray) (ls : List S72) (l : List ByteArray) (c : List Int) (hs : ls.length ≤ 9223372036854775807) : ∀ d i k x, d + i = ls.length → d + 3001 ≤ k →
    ∃ b, ancepsref53_Few.l0 k x (i : Int) nm ls l c = some b ∧ (b = true → ls.length ≤ 210 ∧ l.length ≤ 2010 ∧ c.length ≤ 2020)
  | 0, i, k, x, hd, hk => by
    obtain ⟨k, rfl⟩ : ∃ k', k = k' + 1 := ⟨k - 1, by omega⟩
    obtain ⟨b, hb, h⟩ := few50 l c k (by omega)
    simp only [ancepsref53_Few.l0]; rw [if_neg (by omega)]
    by_cases e : (ls.length : Int) ≤ 210
    · rw [if_pos e]
      by_cases e2 : x ≤ 3000
      · rw [if_pos e2, hb]; exact ⟨b, rfl, fun hq => ⟨by omega, h hq⟩⟩
      · rw [if_neg e2]; exact ⟨_, rfl, fun h => by cases h⟩
    · rw [if_neg e]; exact ⟨_, rfl, fun h => by cases h⟩
  | d + 1, i, k, x, hd, hk => by
    obtain ⟨k, rfl⟩ : ∃ k', k = k' + 1 := ⟨k - 1, by omega⟩
    have h1 : (i : Int) < (ls.length : Int) := by omega
    have h2 : 0 ≤ (i : Int) := by omega
    simp only [ancepsref53_Few.l0, wsB i (by omega)]
    rw [if_pos h1]
    by_cases e2 : x ≤ 3000
    · rw [if_pos e2, if_pos h2]
      exact few53_l nm ls l c hs d (i + 1) k _ (by omega) (by omega)
    · rw [if_neg e2]
      by_cases e : (ls.length : Int) ≤ 210
      · rw [if_pos e]; exact ⟨_, rfl, fun h => by cases h⟩
      · rw [if_neg e]; exact ⟨_, rfl, fun h => by cases h⟩
theorem few53 (nm : ByteArray) (ls : List S72) (l : List ByteArray) (c : List Int) (hs : ls.length ≤ 9223372036854775807) (k : Nat) (hk : ls.length + 3001 ≤ k) :
    ∃ b, ancepsref53_Few.f k nm ls l c = some b ∧ (b = true → ls.length ≤ 210 ∧ l.length ≤ 2010 ∧ c.length ≤ 2020) :=
  few53_l nm ls l c hs ls.length 0 k _ (by omega) hk
theorem ownIs (nm : ByteArray) (ls : List S72) (l : List ByteArray) (c : List Int) (h : ls.length ≤ 210 ∧ l.length ≤ 2010 ∧ c.length ≤ 2020) : ancepslaw53_own.f nm ls l c = some (nm, ls, l, c) := by
  obtain ⟨h1, h2, h3⟩ := h
  unfold ancepslaw53_own.f api_Verse_23.f slices_Clone_string_string.f slices_Clone_int_int.f
  rw [if_pos (by omega), if_pos (by omega), if_pos (by omega)]
  rfl
end Go.Proofs.YtolenfcngomdfaaGreatDoor.P
namespace Go.Proofs.YtolenfcngomdfaaGreatDoor.P
open Go Go.RowKit Go.Proofs.YtolenfcngomdfaaGreatDoorW.PrintWords Go.Proofs.YtolenfcngomdfaaGreatDoor.V
set_option linter.unusedVariables false
theorem law (a0_0 : ByteArray) (A0_1 : Option Addr) (c0_1 : Nat) (l0_1 : List S72) (A0_2 : Option Addr) (c0_2 : Nat) (l0_2 : List ByteArray) (A0_3 : Option Addr) (c0_3 : Nat) (l0_3 : List Int) (a1_0 : ByteArray) (A1_1 : Option Addr) (c1_1 : Nat) (l1_1 : List S72) (A1_2 : Option Addr) (c1_2 : Nat) (l1_2 : List ByteArray) (A1_3 : Option Addr) (c1_3 : Nat) (l1_3 : List Int) (w : World) (hr0_1 : Kd.C k72 w A0_1 l0_1.length l0_1) (hc0_1 : l0_1.length ≤ c0_1) (hr0_2 : Kd.C Kd.string w A0_2 l0_2.length l0_2) (hc0_2 : l0_2.length ≤ c0_2) (hr0_3 : Kd.C (Kd.int .i64) w A0_3 l0_3.length l0_3) (hc0_3 : l0_3.length ≤ c0_3) (hr1_1 : Kd.C k72 w A1_1 l1_1.length l1_1) (hc1_1 : l1_1.length ≤ c1_1) (hr1_2 : Kd.C Kd.string w A1_2 l1_2.length l1_2) (hc1_2 : l1_2.length ≤ c1_2) (hr1_3 : Kd.C (Kd.int .i64) w A1_3 l1_3.length l1_3) (hc1_3 : l1_3.length ≤ c1_3) (hT : EV.TabOK w) :
    Calls Tryz.prog 3 #[.agg #[.string a0_0, .slice A0_1 l0_1.length c0_1, .slice A0_2 l0_2.length c0_2, .slice A0_3 l0_3.length c0_3], .agg #[.string a1_0, .slice A1_1 l1_1.length c1_1, .slice A1_2 l1_2.length c1_2, .slice A1_3 l1_3.length c1_3]] w fun e w' => e = .returned (.bool true) ∧ Below w.heap.size w w' := by
  obtain ⟨fa, eA, hA⟩ := few53 a0_0 l0_1 l0_2 l0_3 hr0_1.2.1 (l0_1.length + l1_1.length + 40000) (by omega)
  obtain ⟨fb, eB, hB⟩ := few53 a1_0 l1_1 l1_2 l1_3 hr1_1.2.1 (l0_1.length + l1_1.length + 40000) (by omega)
  cases fa with
  | false => exact law_no _ a0_0 A0_1 c0_1 l0_1 A0_2 c0_2 l0_2 A0_3 c0_3 l0_3 a1_0 A1_1 c1_1 l1_1 A1_2 c1_2 l1_2 A1_3 c1_3 l1_3 w hr0_1 hc0_1 hr0_2 hc0_2 hr0_3 hc0_3 hr1_1 hc1_1 hr1_2 hc1_2 hr1_3 hc1_3 hT eA
  | true =>
    cases fb with
    | false => exact law_no2 _ a0_0 A0_1 c0_1 l0_1 A0_2 c0_2 l0_2 A0_3 c0_3 l0_3 a1_0 A1_1 c1_1 l1_1 A1_2 c1_2 l1_2 A1_3 c1_3 l1_3 w hr0_1 hc0_1 hr0_2 hc0_2 hr0_3 hc0_3 hr1_1 hc1_1 hr1_2 hc1_2 hr1_3 hc1_3 hT eA eB
    | true =>
      obtain ⟨p, ps, pl, pc, ql, e, h1, h2, h3⟩ := merge a0_0 l0_1 l0_2 l0_3 a1_0 l1_1 l1_2 l1_3 (l0_1.length + l1_1.length + 40000) (by omega)
      exact law_yes _ a0_0 A0_1 c0_1 l0_1 A0_2 c0_2 l0_2 A0_3 c0_3 l0_3 a1_0 A1_1 c1_1 l1_1 A1_2 c1_2 l1_2 A1_3 c1_3 l1_3 w hr0_1 hc0_1 hr0_2 hc0_2 hr0_3 hc0_3 hr1_1 hc1_1 hr1_2 hc1_2 hr1_3 hc1_3 hT p ps pl ql pc e eA eB (ownIs a0_0 l0_1 l0_2 l0_3 (hA rfl)) (ownIs a1_0 l1_1 l1_2 l1_3 (hB rfl)) h1 h2 h3
end Go.Proofs.YtolenfcngomdfaaGreatDoor.P
