/- What the journal's functions compute, in lists of bytes: the check sum, frames, and what one turned bit does. -/
import Derived.Test.YtoepdplglablcaaWMore
namespace Go.Proofs.Ytoepdplglablcaa.Sp

def chkFrom (h : Nat) (l : List UInt8) : Nat := l.foldl (fun h b => (h * 16777619 + b.toNat + 1) % 4294967296) h
def chk (l : List UInt8) : Nat := chkFrom 7 l

theorem chkFrom_append (h : Nat) (a b : List UInt8) : chkFrom h (a ++ b) = chkFrom (chkFrom h a) b := by simp [chkFrom]
theorem chkFrom_cons (h : Nat) (c : UInt8) (l : List UInt8) : chkFrom h (c :: l) = chkFrom ((h * 16777619 + c.toNat + 1) % 4294967296) l := rfl

theorem chkFrom_lt (l : List UInt8) : ∀ h, h < 4294967296 → chkFrom h l < 4294967296 := by
  induction l with
  | nil => intro h hh; exact hh
  | cons c l ih => intro h _; rw [chkFrom_cons]; exact ih _ (Nat.mod_lt _ (by decide))

theorem chk_lt (l : List UInt8) : chk l < 4294967296 := chkFrom_lt l 7 (by decide)

theorem step_inj {h h' c : Nat} (hh : h < 4294967296) (hh' : h' < 4294967296) (e : (h * 16777619 + c) % 4294967296 = (h' * 16777619 + c) % 4294967296) : h = h' := by
  have e1 : BitVec.ofNat 32 (h * 16777619 + c) = BitVec.ofNat 32 (h' * 16777619 + c) := BitVec.eq_of_toNat_eq (by simpa only [BitVec.toNat_ofNat] using e)
  rw [BitVec.ofNat_add, BitVec.ofNat_add, BitVec.ofNat_mul, BitVec.ofNat_mul] at e1
  have e2 := BitVec.add_right_inj _ |>.1 ((BitVec.add_comm _ _).trans (e1.trans (BitVec.add_comm _ _)))
  have e3 : BitVec.ofNat 32 h * BitVec.ofNat 32 16777619 * 899433627#32 = BitVec.ofNat 32 h' * BitVec.ofNat 32 16777619 * 899433627#32 := by rw [e2]
  have hu : BitVec.ofNat 32 16777619 * 899433627#32 = 1#32 := by decide
  rw [BitVec.mul_assoc, BitVec.mul_assoc, hu, BitVec.mul_one, BitVec.mul_one] at e3
  have e4 := congrArg BitVec.toNat e3
  rwa [BitVec.toNat_ofNat, BitVec.toNat_ofNat, Nat.mod_eq_of_lt hh, Nat.mod_eq_of_lt hh'] at e4

theorem chkFrom_inj (l : List UInt8) : ∀ h h', h < 4294967296 → h' < 4294967296 → chkFrom h l = chkFrom h' l → h = h' := by
  induction l with
  | nil => intro h h' _ _ e; exact e
  | cons c l ih =>
    intro h h' hh hh' e
    rw [chkFrom_cons, chkFrom_cons] at e
    have := ih _ _ (Nat.mod_lt _ (by decide)) (Nat.mod_lt _ (by decide)) e
    exact step_inj (c := c.toNat + 1) hh hh' (by simpa [Nat.add_assoc] using this)

/-- One byte that differs turns the check sum. -/
theorem chk_ne (a b : List UInt8) (x y : UInt8) (h : x ≠ y) : chk (a ++ x :: b) ≠ chk (a ++ y :: b) := by
  intro e
  unfold chk at e
  rw [chkFrom_append, chkFrom_append, chkFrom_cons, chkFrom_cons] at e
  have hc := chkFrom_lt a 7 (by decide)
  have := chkFrom_inj b _ _ (Nat.mod_lt _ (by decide)) (Nat.mod_lt _ (by decide)) e
  have hx := x.toNat_lt
  have hy := y.toNat_lt
  have hne : x.toNat ≠ y.toNat := fun he => h (UInt8.toNat.inj he)
  omega

def b8 (n : Nat) : UInt8 := UInt8.ofNat n
theorem b8_toNat (n : Nat) : (b8 n).toNat = n % 256 := by simp [b8]

def head8 (n c : Nat) : List UInt8 := [b8 (n / 256), b8 n, b8 ((65535 - n) / 256), b8 (65535 - n), b8 (c / 16777216), b8 (c / 65536), b8 (c / 256), b8 c]
def frame (p : List UInt8) : List UInt8 := head8 p.length (chk p) ++ p
theorem frame_length (p : List UInt8) : (frame p).length = 8 + p.length := by simp [frame, head8]; omega

def two (a b : UInt8) : Nat := a.toNat * 256 + b.toNat
def four (a b c d : UInt8) : Nat := ((a.toNat * 256 + b.toNat) * 256 + c.toNat) * 256 + d.toNat

/-- The payload of a frame at the head of a string. -/
def first : List UInt8 → Option (List UInt8)
  | a :: b :: c :: d :: e :: f :: g :: h :: r =>
    if two a b ≤ 400 ∧ two c d = 65535 - two a b ∧ two a b ≤ r.length ∧ four e f g h = chk (r.take (two a b)) then some (r.take (two a b)) else none
  | _ => none

theorem first_short {l : List UInt8} (h : l.length < 8) : first l = none := by
  rcases l with _ | ⟨a, _ | ⟨b, _ | ⟨c, _ | ⟨d, _ | ⟨e, _ | ⟨f, _ | ⟨g, _ | ⟨h', r⟩⟩⟩⟩⟩⟩⟩⟩ <;> first | rfl | (simp at h; omega)

theorem two_b8 {n : Nat} (h : n ≤ 65535) : two (b8 (n / 256)) (b8 n) = n := by
  unfold two; rw [b8_toNat, b8_toNat]; omega
theorem four_b8 {n : Nat} (h : n < 4294967296) : four (b8 (n / 16777216)) (b8 (n / 65536)) (b8 (n / 256)) (b8 n) = n := by
  unfold four; rw [b8_toNat, b8_toNat, b8_toNat, b8_toNat]; omega

theorem first_frame (p r : List UInt8) (h : p.length ≤ 400) : first (frame p ++ r) = some p := by
  simp only [frame, head8, List.cons_append, List.nil_append, first]
  rw [two_b8 (by omega), two_b8 (by omega), four_b8 (chk_lt p)]
  simp [h]

theorem first_some {s p : List UInt8} (h : first s = some p) : p.length ≤ 400 ∧ ∃ r, s = frame p ++ r := by
  unfold first at h
  split at h
  · rename_i a b c d e f g i r
    split at h
    · rename_i hc
      obtain ⟨h1, h2, h3, h4⟩ := hc
      injection h with h
      have hl : p.length = two a b := by rw [← h, List.length_take]; omega
      refine ⟨by omega, r.drop (two a b), ?_⟩
      have ha := a.toNat_lt; have hb := b.toNat_lt; have hcc := c.toNat_lt; have hd := d.toNat_lt
      have he := e.toNat_lt; have hf := f.toNat_lt; have hg := g.toNat_lt; have hi := i.toNat_lt
      have hp : chk p = four e f g i := by rw [h4, h]
      have q : ∀ (u : UInt8) (n : Nat), u.toNat = n % 256 → b8 n = u := by
        intro u n hn; apply UInt8.toNat.inj; rw [b8_toNat, hn]
      unfold frame head8
      rw [hl, hp]
      rw [q a _ (by unfold two; omega), q b _ (by unfold two; omega), q c _ (by rw [← h2]; unfold two; omega), q d _ (by rw [← h2]; unfold two; omega),
        q e _ (by unfold four; omega), q f _ (by unfold four; omega), q g _ (by unfold four; omega), q i _ (by unfold four; omega)]
      rw [← h]
      simp
    · exact absurd h (by simp)
  · exact absurd h (by simp)

def enc (l : List (List UInt8)) : List UInt8 := l.flatMap frame
def Ok (l : List (List UInt8)) : Prop := ∀ p ∈ l, p.length ≤ 400
/-- l are the payloads of the right beginning of s. -/
def Parsed (s : List UInt8) (l : List (List UInt8)) : Prop := Ok l ∧ ∃ r, s = enc l ++ r ∧ first r = none

theorem enc_cons (p : List UInt8) (l : List (List UInt8)) : enc (p :: l) = frame p ++ enc l := rfl
theorem enc_append (a b : List (List UInt8)) : enc (a ++ b) = enc a ++ enc b := by simp [enc]
theorem enc_snoc (a : List (List UInt8)) (p : List UInt8) : enc (a ++ [p]) = enc a ++ frame p := by simp [enc]

theorem Parsed.unique {s : List UInt8} : ∀ {l l' : List (List UInt8)}, Parsed s l → Parsed s l' → l = l' := by
  intro l
  induction l generalizing s with
  | nil =>
    intro l' ⟨_, r, e, h⟩ ⟨ho, r', e', h'⟩
    cases l' with
    | nil => rfl
    | cons p l' =>
      have : first s = some p := by rw [e', enc_cons, List.append_assoc]; exact first_frame _ _ (ho p (by simp))
      rw [e] at this
      simp only [enc, List.flatMap_nil, List.nil_append] at this
      rw [h] at this
      cases this
  | cons p l ih =>
    intro l' ⟨ho, r, e, h⟩ ⟨ho', r', e', h'⟩
    have h1 : first s = some p := by rw [e, enc_cons, List.append_assoc]; exact first_frame _ _ (ho p (by simp))
    cases l' with
    | nil =>
      simp only [enc, List.flatMap_nil, List.nil_append] at e'
      rw [e', h'] at h1
      cases h1
    | cons p' l' =>
      have h2 : first s = some p' := by rw [e', enc_cons, List.append_assoc]; exact first_frame _ _ (ho' p' (by simp))
      obtain rfl : p = p' := by rw [h1] at h2; exact Option.some.inj h2
      have : enc l ++ r = enc l' ++ r' := by
        rw [e, enc_cons, enc_cons, List.append_assoc, List.append_assoc] at e'
        exact List.append_cancel_left e'
      rw [ih (s := enc l ++ r) ⟨fun q hq => ho q (by simp [hq]), r, rfl, h⟩ ⟨fun q hq => ho' q (by simp [hq]), r', this, h'⟩]

/-- The bit b of a string, turned: the byte b / 8 becomes another one. -/
def Flip (s t : List UInt8) (j : Nat) : Prop := j < s.length ∧ ∃ x, x ≠ s.getD j 0 ∧ t = s.set j x

theorem Flip.length {s t : List UInt8} {j : Nat} (h : Flip s t j) : t.length = s.length := by obtain ⟨_, x, _, rfl⟩ := h; simp

/-- Behind a turned byte a frame is none, whatever follows; nor is the beginning of one. -/
theorem first_flip_gen (p : List UInt8) (hp : p.length ≤ 400) (t r : List UInt8) (j : Nat) (h : Flip (frame p) t j) (s : List UInt8) (hs : s = t ++ r ∨ ∃ k, k < t.length ∧ s = t.take k) : first s = none := by
  apply Option.eq_none_iff_forall_ne_some.2
  intro q hq
  obtain ⟨hj, x, hx, rfl⟩ := h
  have hlen := frame_length p
  have hcp := chk_lt p
  by_cases h8 : s.length < 8
  · rw [first_short h8] at hq; cases hq
  -- the bytes of s
  have hget : ∀ i, i < s.length → i < 8 + p.length → s.getD i 0 = ((frame p).set j x).getD i 0 := by
    intro i hi hi2
    rcases hs with rfl | ⟨k, hk, rfl⟩
    · simp [List.getD_eq_getElem?_getD, List.getElem?_append, hlen, hi2]
    · simp only [List.length_take] at hi
      simp only [List.getD_eq_getElem?_getD, List.getElem?_take]
      rw [if_pos (by omega)]
  obtain ⟨hq4, r', hr'⟩ := first_some hq
  have hqf : ∀ i, i < 8 + q.length → s.getD i 0 = (frame q).getD i 0 := by
    intro i hi
    rw [hr']
    simp [List.getD_eq_getElem?_getD, List.getElem?_append, frame_length, hi]
  have hsl : 8 + q.length ≤ s.length := by rw [hr', List.length_append, frame_length]; omega
  have hcq := chk_lt q
  -- position by position
  have hb : ∀ i, i < 8 + p.length → i < 8 + q.length → (frame q).getD i 0 = if i = j then x else (frame p).getD i 0 := by
    intro i hi hi2
    rw [← hqf i hi2, hget i (by omega) hi]
    simp only [List.getD_eq_getElem?_getD, List.getElem?_set]
    by_cases hij : j = i
    · subst hij; simp [hlen, hi]
    · have : ¬ i = j := fun h => hij h.symm
      simp [hij, this]
  have hn : q.length = p.length := by
    by_cases hj4 : j < 2
    · have e2 := hb 2 (by omega) (by omega); rw [if_neg (by omega)] at e2
      have e3 := hb 3 (by omega) (by omega); rw [if_neg (by omega)] at e3
      simp only [frame, head8, List.cons_append, List.getD_cons_succ, List.getD_cons_zero] at e2 e3
      have e2' := congrArg UInt8.toNat e2; have e3' := congrArg UInt8.toNat e3
      rw [b8_toNat, b8_toNat] at e2' e3'
      omega
    · have e2 := hb 0 (by omega) (by omega); rw [if_neg (by omega)] at e2
      have e3 := hb 1 (by omega) (by omega); rw [if_neg (by omega)] at e3
      simp only [frame, head8, List.cons_append, List.getD_cons_succ, List.getD_cons_zero] at e2 e3
      have e2' := congrArg UInt8.toNat e2; have e3' := congrArg UInt8.toNat e3
      rw [b8_toNat, b8_toNat] at e2' e3'
      omega
  have hall : frame q = (frame p).set j x := by
    apply List.ext_getElem
    · rw [List.length_set, frame_length, frame_length, hn]
    · intro i h1 h2
      rw [List.length_set, frame_length] at h2
      have := hb i h2 (by omega)
      rw [frame_length] at h1
      rw [List.getElem_set]
      simp only [List.getD_eq_getElem?_getD, List.getElem?_eq_getElem (show i < (frame q).length by rw [frame_length]; omega), List.getElem?_eq_getElem (show i < (frame p).length by rw [frame_length]; omega), Option.getD_some] at this
      rw [this]
      by_cases hij : j = i
      · subst hij; simp
      · have : ¬ i = j := fun h => hij h.symm
        simp [hij, this]
  -- the heads agree but for the check sum, so the payloads differ in one byte, and the sums differ; or the payloads agree, and so do the heads
  have hx' : x ≠ (frame p).getD j 0 := hx
  by_cases hj8 : j < 8
  · have hpq : q = p := by
      have := congrArg (List.drop 8) hall
      rw [List.drop_set_of_lt hj8] at this
      simpa [frame, head8] using this
    rw [hpq] at hall
    apply hx'
    have := congrArg (fun l => l.getD j 0) hall
    simp only [List.getD_eq_getElem?_getD, List.getElem?_set, hj, if_true] at this
    rw [List.getD_eq_getElem?_getD, this]
    simp
  · have hd : q = p.set (j - 8) x := by
      have := congrArg (List.drop 8) hall
      rw [List.drop_set] at this
      rw [if_neg (by omega)] at this
      simpa [frame, head8] using this
    have hjp : j - 8 < p.length := by omega
    have hc : chk q = chk p := by
      have t4 : (head8 q.length (chk q)) = head8 p.length (chk p) := by
        have := congrArg (List.take 8) hall
        rw [List.take_set_of_le (by omega)] at this
        simpa [frame, head8] using this
      simp only [head8, List.cons.injEq] at t4
      obtain ⟨_, _, _, _, g4, g5, g6, g7, _⟩ := t4
      have g4 := congrArg UInt8.toNat g4; have g5 := congrArg UInt8.toNat g5; have g6 := congrArg UInt8.toNat g6; have g7 := congrArg UInt8.toNat g7
      rw [b8_toNat, b8_toNat] at g4 g5 g6 g7
      omega
    have hsplit : p = p.take (j - 8) ++ p[j - 8] :: p.drop (j - 8 + 1) := by
      rw [List.getElem_cons_drop, List.take_append_drop]
    have hsplit' : q = p.take (j - 8) ++ x :: p.drop (j - 8 + 1) := by
      rw [hd, List.set_eq_take_append_cons_drop, if_pos hjp]
    have hxp : x ≠ p[j - 8] := by
      intro he
      apply hx'
      rw [he]
      have h8l : (head8 p.length (chk p)).length = 8 := rfl
      rw [List.getD_eq_getElem?_getD, frame, List.getElem?_append_right (by rw [h8l]; omega), h8l, List.getElem?_eq_getElem hjp, Option.getD_some]
    have hc' : chk (p.take (j - 8) ++ x :: p.drop (j - 8 + 1)) = chk (p.take (j - 8) ++ p[j - 8] :: p.drop (j - 8 + 1)) := by
      rw [← hsplit', ← hsplit]; exact hc
    exact chk_ne _ _ _ _ hxp hc'


/-- The beginning of a frame is none. -/
theorem first_cut (p : List UInt8) (hp : p.length ≤ 400) (k : Nat) (hk : k < 8 + p.length) : first ((frame p).take k) = none := by
  apply Option.eq_none_iff_forall_ne_some.2
  intro q hq
  have hlen := frame_length p
  by_cases h8 : k < 8
  · rw [first_short (by rw [List.length_take]; omega)] at hq; cases hq
  obtain ⟨hq4, r', hr'⟩ := first_some hq
  have h0 := congrArg (fun l => (l.getD 0 0, l.getD 1 0)) hr'
  have hk' : ((frame p).take k).length = (frame q ++ r').length := congrArg List.length hr'
  rw [List.length_take, List.length_append, frame_length, frame_length] at hk'
  simp only [List.getD_eq_getElem?_getD, List.getElem?_take, show 0 < k by omega, show 1 < k by omega, if_true, Prod.mk.injEq] at h0
  obtain ⟨e0, e1⟩ := h0
  simp [frame, head8] at e0 e1
  have e0 := congrArg UInt8.toNat e0
  have e1 := congrArg UInt8.toNat e1
  rw [b8_toNat, b8_toNat] at e0 e1
  omega

/-- How many frames end at or ahead of a place. -/
def fit : Nat → List (List UInt8) → Nat
  | _, [] => 0
  | k, p :: l => if 8 + p.length ≤ k then 1 + fit (k - (8 + p.length)) l else 0

theorem fit_le (l : List (List UInt8)) : ∀ k, fit k l ≤ l.length := by
  induction l with
  | nil => intro k; exact Nat.le_refl _
  | cons p l ih =>
    intro k
    unfold fit
    split
    · have := ih (k - (8 + p.length)); simp; omega
    · simp

theorem Ok.tail {p : List UInt8} {l : List (List UInt8)} (h : Ok (p :: l)) : Ok l := fun q hq => h q (by simp [hq])
theorem Ok.head {p : List UInt8} {l : List (List UInt8)} (h : Ok (p :: l)) : p.length ≤ 400 := h p (by simp)
theorem Ok.take {l : List (List UInt8)} (h : Ok l) (k : Nat) : Ok (l.take k) := fun q hq => h q (List.mem_of_mem_take hq)
theorem Ok.append {a b : List (List UInt8)} (h : Ok a) (k : Ok b) : Ok (a ++ b) := by
  intro q hq; rcases List.mem_append.1 hq with h1 | h1
  · exact h q h1
  · exact k q h1

theorem Parsed.cons {s : List UInt8} {l : List (List UInt8)} {p : List UInt8} (hp : p.length ≤ 400) (h : Parsed s l) : Parsed (frame p ++ s) (p :: l) := by
  obtain ⟨ho, r, rfl, hr⟩ := h
  refine ⟨fun q hq => ?_, r, by rw [enc_cons, List.append_assoc], hr⟩
  rcases List.mem_cons.1 hq with rfl | h1
  · exact hp
  · exact ho q h1

theorem Parsed.append {s : List UInt8} {l a : List (List UInt8)} (ha : Ok a) (h : Parsed s l) : Parsed (enc a ++ s) (a ++ l) := by
  induction a with
  | nil => simpa [enc] using h
  | cons p a ih => rw [enc_cons, List.append_assoc]; exact Parsed.cons ha.head (ih ha.tail)

theorem Parsed.nil_of {s : List UInt8} (h : first s = none) : Parsed s [] := ⟨fun _ h => by simp at h, s, rfl, h⟩

theorem Parsed.whole {l : List (List UInt8)} (h : Ok l) : Parsed (enc l) l := by
  have := Parsed.append h (Parsed.nil_of (first_short (l := []) (by simp)))
  simpa using this

theorem cut_parsed (l : List (List UInt8)) : ∀ k, Ok l → Parsed ((enc l).take k) (l.take (fit k l)) := by
  induction l with
  | nil => intro k _; simpa [enc, fit] using Parsed.nil_of (first_short (l := []) (by simp))
  | cons p l ih =>
    intro k ho
    unfold fit
    rw [enc_cons]
    split
    · rename_i h
      rw [List.take_append, frame_length, List.take_of_length_le (by rw [frame_length]; exact h), Nat.add_comm 1, List.take_succ_cons]
      exact Parsed.cons ho.head (ih _ ho.tail)
    · rename_i h
      rw [List.take_append_of_le_length (by rw [frame_length]; omega)]
      exact Parsed.nil_of (first_cut p ho.head k (by omega))

theorem flip_parsed (l : List (List UInt8)) : ∀ k t j, Ok l → Flip ((enc l).take k) t j → Parsed t (l.take (fit j l)) := by
  induction l with
  | nil => intro k t j _ h; have := h.1; simp [enc] at this
  | cons p l ih =>
    intro k t j ho h
    obtain ⟨hj, x, hx, rfl⟩ := h
    have hl := frame_length p
    rw [enc_cons] at hj hx ⊢
    rw [List.length_take, List.length_append, hl] at hj
    unfold fit
    split
    · rename_i h
      have e : (frame p ++ enc l).take k = frame p ++ (enc l).take (k - (8 + p.length)) := by
        rw [List.take_append, hl, List.take_of_length_le (by rw [hl]; omega)]
      rw [e] at hx ⊢
      rw [List.set_append_right _ _ (by rw [hl]; exact h), hl, Nat.add_comm 1, List.take_succ_cons]
      refine Parsed.cons ho.head (ih (k - (8 + p.length)) _ _ ho.tail ⟨by rw [List.length_take]; omega, x, ?_, rfl⟩)
      rw [List.getD_eq_getElem?_getD, List.getElem?_append_right (by rw [hl]; exact h), hl, ← List.getD_eq_getElem?_getD] at hx
      exact hx
    · rename_i h
      refine Parsed.nil_of (first_flip_gen p ho.head ((frame p).set j x) ((enc l).take (k - (8 + p.length))) j ⟨by omega, x, ?_, rfl⟩ _ ?_)
      · intro e; apply hx; rw [e]
        simp only [List.getD_eq_getElem?_getD, List.getElem?_take, List.getElem?_append, hl]
        rw [if_pos (by omega), if_pos (by omega)]
      · by_cases hk : 8 + p.length ≤ k
        · left
          rw [List.take_append, hl, List.take_of_length_le (by rw [hl]; omega), List.set_append_left _ _ (by omega)]
        · right
          refine ⟨k, by rw [List.length_set, hl]; omega, ?_⟩
          rw [List.take_append_of_le_length (by rw [hl]; omega), List.take_set]

end Go.Proofs.Ytoepdplglablcaa.Sp
