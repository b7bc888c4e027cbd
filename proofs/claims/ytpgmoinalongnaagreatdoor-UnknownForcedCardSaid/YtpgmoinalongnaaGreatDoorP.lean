/- A part of the proof of the tied card of UnknownForced (chapter 39): the law returns true whatever the input. -/
import Derived.Test.YtpgmoinalongnaaGreatDoorH
set_option linter.unusedVariables false
set_option linter.unusedSimpArgs false
namespace Go.Proofs.YtpgmoinalongnaaGreatDoor.U
open Go.RowKit Go.Proofs.YtpgmoinalongnaaGreatDoorW.PrintWords Go.Proofs.YtpgmoinalongnaaGreatDoorW.PrintLast Go.Proofs.YtpgmoinalongnaaGreatDoorW.PrintMore
set_option linter.unusedVariables false
set_option linter.unusedSimpArgs false
theorem wr_succ (i : Nat) (h : i ≤ 100000) : wrap64 ((i : Int) + 1) = ((i + 1 : Nat) : Int) := by unfold wrap64; omega
theorem wr_pred (i : Nat) (h : i ≤ 100000) (h1 : 0 < i) : wrap64 ((i : Int) - 1) = ((i - 1 : Nat) : Int) := by unfold wrap64; omega
/-- What the loops answer: the numbers rise, and lie from 0 to 'hi'. -/
def chk (hi : Int) (l : List Int) : Nat → Nat → Int
  | 0, _ => 0
  | d + 1, i => if rd l (i : Int) < 0 ∨ hi ≤ rd l (i : Int) then 6 else if 0 < i ∧ rd l (i : Int) ≤ rd l ((i - 1 : Nat) : Int) then 18 else chk hi l d (i + 1)
theorem vars_loop (l : List Int) (hl : l.length ≤ 2000) : ∀ d i k, d + i = l.length → 2 * d + 1 ≤ k → ancepsref38_Variables.l0 k l (i : Int) = some (chk 24 l d i)
  | 0, i, k + 1, h, hk => by
    simp only [ancepsref38_Variables.l0, chk]
    rw [if_neg (by omega)]
  | d + 1, i, k + 2, h, hk => by
    have ih := vars_loop l hl d (i + 1) k (by omega) (by omega)
    have h1 : (i : Int) < (l.length : Int) := by omega
    have h2 : 0 ≤ (i : Int) := by omega
    have ws := wr_succ i (by omega)
    simp only [ancepsref38_Variables.l0, ancepsref38_Variables.j1, chk, if_pos h1, if_pos h2, ws, ih]
    by_cases c1 : rd l (i : Int) < 0
    · simp [c1]
    · by_cases c2 : 24 ≤ rd l (i : Int)
      · have c3 : decide (rd l (i : Int) > 23) = true := decide_eq_true (by omega)
        simp [c1, c2, c3]
      · have c3 : decide (rd l (i : Int) > 23) = false := decide_eq_false (by omega)
        rw [if_neg c1, c3, if_neg (by decide), if_neg (by omega : ¬(rd l (i : Int) < 0 ∨ 24 ≤ rd l (i : Int)))]
        by_cases c4 : 0 < i
        · have wp := wr_pred i (by omega) c4
          have c5 : (i : Int) > 0 := by omega
          have c6 : 0 ≤ ((i - 1 : Nat) : Int) := by omega
          have c7 : ((i - 1 : Nat) : Int) < (l.length : Int) := by omega
          rw [if_pos c5, wp, if_pos c6, if_pos c7]
          by_cases c8 : rd l (i : Int) ≤ rd l ((i - 1 : Nat) : Int)
          · rw [if_pos c8, if_pos ⟨c4, c8⟩]
          · rw [if_neg c8, if_neg (fun h => c8 h.2)]
        · rw [if_neg (by omega), if_neg (fun h => c4 h.1)]
theorem asc_loop (l : List Int) (hl : l.length ≤ 2000) : ∀ d i k, d + i = l.length → 2 * d + 1 ≤ k → table_ascending.l0 k l l (l.length : Int) (i : Int) = some (chk 24 l d i)
  | 0, i, k + 1, h, hk => by
    simp only [table_ascending.l0, chk]
    rw [if_neg (by omega)]
  | d + 1, i, k + 2, h, hk => by
    have ih := asc_loop l hl d (i + 1) k (by omega) (by omega)
    have h1 : (i : Int) < (l.length : Int) := by omega
    have h2 : 0 ≤ (i : Int) := by omega
    have ws := wr_succ i (by omega)
    simp only [table_ascending.l0, table_ascending.j1, chk, if_pos h1, if_pos h2, ws, ih]
    by_cases c1 : rd l (i : Int) < 0
    · simp [c1]
    · by_cases c2 : 24 ≤ rd l (i : Int)
      · have c3 : decide (rd l (i : Int) ≥ 24) = true := decide_eq_true c2
        simp [c1, c2, c3]
      · have c3 : decide (rd l (i : Int) ≥ 24) = false := decide_eq_false c2
        rw [if_neg c1, c3, if_neg (by decide), if_neg (by omega : ¬(rd l (i : Int) < 0 ∨ 24 ≤ rd l (i : Int)))]
        by_cases c4 : 0 < i
        · have wp := wr_pred i (by omega) c4
          have c5 : (i : Int) > 0 := by omega
          have c6 : 0 ≤ ((i - 1 : Nat) : Int) := by omega
          have c7 : ((i - 1 : Nat) : Int) < (l.length : Int) := by omega
          rw [if_pos c5, wp, if_pos c6, if_pos c7]
          by_cases c8 : rd l (i : Int) ≤ rd l ((i - 1 : Nat) : Int)
          · rw [if_pos c8, if_pos ⟨c4, c8⟩]
          · rw [if_neg c8, if_neg (fun h => c8 h.2)]
        · rw [if_neg (by omega), if_neg (fun h => c4 h.1)]
theorem rval_loop (v l : List Int) (hl : l.length ≤ 2000) : ∀ d i k, d + i = l.length → 2 * d + 1 ≤ k → ancepsref38_Valid.l0 k (i : Int) v l = some (chk (shl .i64 1 (v.length : Int)) l d i)
  | 0, i, k + 1, h, hk => by
    simp only [ancepsref38_Valid.l0, chk]
    rw [if_neg (by omega)]
  | d + 1, i, k + 2, h, hk => by
    have ih := rval_loop v l hl d (i + 1) k (by omega) (by omega)
    have h1 : (i : Int) < (l.length : Int) := by omega
    have h2 : 0 ≤ (i : Int) := by omega
    have ws := wr_succ i (by omega)
    simp only [ancepsref38_Valid.l0, ancepsref38_Valid.j1, chk, if_pos h1, if_pos h2, ws, ih]
    generalize shl .i64 1 (v.length : Int) = hi
    by_cases c1 : rd l (i : Int) < 0
    · simp [c1]
    · by_cases c2 : hi ≤ rd l (i : Int)
      · have c3 : decide (rd l (i : Int) ≥ hi) = true := decide_eq_true c2
        simp [c1, c2, c3]
      · have c3 : decide (rd l (i : Int) ≥ hi) = false := decide_eq_false c2
        rw [if_neg c1, c3, if_neg (by decide), if_neg (by omega : ¬(rd l (i : Int) < 0 ∨ hi ≤ rd l (i : Int)))]
        by_cases c4 : 0 < i
        · have wp := wr_pred i (by omega) c4
          have c5 : (i : Int) > 0 := by omega
          have c6 : 0 ≤ ((i - 1 : Nat) : Int) := by omega
          have c7 : ((i - 1 : Nat) : Int) < (l.length : Int) := by omega
          rw [if_pos c5, wp, if_pos c6, if_pos c7]
          by_cases c8 : rd l (i : Int) ≤ rd l ((i - 1 : Nat) : Int)
          · rw [if_pos c8, if_pos ⟨c4, c8⟩]
          · rw [if_neg c8, if_neg (fun h => c8 h.2)]
        · rw [if_neg (by omega), if_neg (fun h => c4 h.1)]
theorem tval_loop (v l : List Int) (hl : l.length ≤ 2000) : ∀ d i k, d + i = l.length → 2 * d + 1 ≤ k → table_Valid.l0 k l (l.length : Int) (i : Int) v l = some (chk (shl .i64 1 (v.length : Int)) l d i)
  | 0, i, k + 1, h, hk => by
    simp only [table_Valid.l0, chk]
    rw [if_neg (by omega)]
  | d + 1, i, k + 2, h, hk => by
    have ih := tval_loop v l hl d (i + 1) k (by omega) (by omega)
    have h1 : (i : Int) < (l.length : Int) := by omega
    have h2 : 0 ≤ (i : Int) := by omega
    have ws := wr_succ i (by omega)
    simp only [table_Valid.l0, table_Valid.j1, chk, if_pos h1, if_pos h2, ws, ih]
    generalize shl .i64 1 (v.length : Int) = hi
    by_cases c1 : rd l (i : Int) < 0
    · simp [c1]
    · by_cases c2 : hi ≤ rd l (i : Int)
      · have c3 : decide (rd l (i : Int) ≥ hi) = true := decide_eq_true c2
        simp [c1, c2, c3]
      · have c3 : decide (rd l (i : Int) ≥ hi) = false := decide_eq_false c2
        rw [if_neg c1, c3, if_neg (by decide), if_neg (by omega : ¬(rd l (i : Int) < 0 ∨ hi ≤ rd l (i : Int)))]
        by_cases c4 : 0 < i
        · have wp := wr_pred i (by omega) c4
          have c5 : (i : Int) > 0 := by omega
          have c6 : 0 ≤ ((i - 1 : Nat) : Int) := by omega
          have c7 : ((i - 1 : Nat) : Int) < (l.length : Int) := by omega
          rw [if_pos c5, wp, if_pos c6, if_pos c7]
          by_cases c8 : rd l (i : Int) ≤ rd l ((i - 1 : Nat) : Int)
          · rw [if_pos c8, if_pos ⟨c4, c8⟩]
          · rw [if_neg c8, if_neg (fun h => c8 h.2)]
        · rw [if_neg (by omega), if_neg (fun h => c4 h.1)]
/-- The error of a table. -/
def errOf (v l : List Int) : Int := if (v.length : Int) > 10 then 3 else if chk 24 v v.length 0 = 0 then chk (shl .i64 1 (v.length : Int)) l l.length 0 else chk 24 v v.length 0
theorem rval (v l : List Int) (k : Nat) (hv : v.length ≤ 2000) (hl : l.length ≤ 2000) (hk : 4001 ≤ k) : ancepsref38_Valid.f k v l = some (errOf v l) := by
  unfold ancepsref38_Valid.f ancepsref38_Variables.f errOf
  have a1 := vars_loop v hv v.length 0 k (by omega) (by omega)
  have a2 := rval_loop v l hl l.length 0 k (by omega) (by omega)
  rw [show ((0 : Nat) : Int) = 0 from rfl] at a1 a2
  by_cases c : (v.length : Int) > 10
  · rw [if_pos c, if_pos c]; rfl
  · rw [if_neg c, if_neg c, a1, Option.bind_some]
    by_cases c2 : chk 24 v v.length 0 = 0
    · rw [if_pos c2, if_pos c2, a2]
    · rw [if_neg c2, if_neg c2]
theorem tval (v l : List Int) (k : Nat) (hv : v.length ≤ 2000) (hl : l.length ≤ 2000) (hk : 4001 ≤ k) : table_Valid.f k v l = some (errOf v l) := by
  unfold table_Valid.f table_ascending.f errOf
  have a1 := asc_loop v hv v.length 0 k (by omega) (by omega)
  have a2 := tval_loop v l hl l.length 0 k (by omega) (by omega)
  rw [show ((0 : Nat) : Int) = 0 from rfl] at a1 a2
  by_cases c : (v.length : Int) > 10
  · rw [if_pos c, if_pos c]; rfl
  · rw [if_neg c, if_neg c, a1, Option.bind_some]
    by_cases c2 : chk 24 v v.length 0 = 0
    · rw [if_pos c2, if_pos c2, a2]
    · rw [if_neg c2, if_neg c2]
/-- From the j-th row on, the i-th bit is 'v'. -/
def alike (i v : Int) (l : List Int) : Nat → Nat → Bool
  | 0, _ => true
  | d + 1, j => (Go.bits .and .i64 (shr .i64 (rd l (j : Int)) i) 1 == v) && alike i v l d (j + 1)
theorem alike_any (i v : Int) (l : List Int) : ∀ d j, d + j = l.length → alike i v l d j = !((l.drop j).any (bitNe i v))
  | 0, j, h => by rw [List.drop_eq_nil_of_le (by omega)]; rfl
  | d + 1, j, h => by
    have hj : j < l.length := by omega
    have e : rd l (j : Int) = l[j] := by simp [rd, List.getD_eq_getElem?_getD, hj]
    rw [alike, alike_any i v l d (j + 1) (by omega), List.drop_eq_getElem_cons hj, List.any_cons, e]
    unfold bitNe
    generalize Go.bits .and .i64 (shr .i64 l[j] i) 1 = a
    cases h : (a == v) <;> simp [bne, h]
theorem inner (v l : List Int) (hl : l.length ≤ 2000) (hv : v.length ≤ 2000) (x : List S34) (i : Nat) (hi : i < v.length) (hx : x.length ≤ 4000) (b : Int) (k : Nat) : ∀ d j (f : Bool), d + j = l.length →
    ancepsref39_Forced.l1 (d + 1 + k) x (i : Int) b f (j : Int) v l = if f && alike (i : Int) b l d j then ancepsref39_Forced.l0 k (x ++ [⟨rd v (i : Int), b⟩]) ((i + 1 : Nat) : Int) v l else ancepsref39_Forced.l0 k x ((i + 1 : Nat) : Int) v l
  | 0, j, f, h => by
    have wi := wr_succ i (by omega)
    have h1 : 0 ≤ (i : Int) := by omega
    have h2 : (i : Int) < (v.length : Int) := by omega
    have h3 : x.length < 8796093022208 := by omega
    rw [show 0 + 1 + k = k + 1 by omega]
    simp only [ancepsref39_Forced.l1, alike, Bool.and_true, wi]
    rw [if_neg (by omega)]
    cases f with
    | true => rw [if_pos rfl, if_pos h1, if_pos h2, if_pos h3, if_pos rfl]
    | false => rw [if_neg (by decide), if_neg (by decide)]
  | d + 1, j, f, h => by
    have wj := wr_succ j (by omega)
    have h1 : 0 ≤ (i : Int) := by omega
    have h2 : (j : Int) < (l.length : Int) := by omega
    have h3 : 0 ≤ (j : Int) := by omega
    rw [show d + 1 + 1 + k = (d + 1 + k) + 1 by omega]
    simp only [ancepsref39_Forced.l1, wj, if_pos h1, if_pos h2, if_pos h3, alike]
    cases f with
    | true => rw [if_pos rfl, inner v l hl hv x i hi hx b k d (j + 1) _ (by omega)]; simp only [Bool.true_and]
    | false => rw [if_neg (by decide), inner v l hl hv x i hi hx b k d (j + 1) _ (by omega)]; simp only [Bool.false_and]
/-- The forced variables. -/
def forced (v l : List Int) : Nat → Nat → List S34 → List S34
  | 0, _, x => x
  | d + 1, i, x => if alike (i : Int) (Go.bits .and .i64 (shr .i64 (rd l 0) (i : Int)) 1) l l.length 0 then forced v l d (i + 1) (x ++ [⟨rd v (i : Int), Go.bits .and .i64 (shr .i64 (rd l 0) (i : Int)) 1⟩]) else forced v l d (i + 1) x
theorem ref_loop (v l : List Int) (hl : l.length ≤ 2000) (hv : v.length ≤ 2000) (hp : 0 < l.length) : ∀ d i k (x : List S34), d + i = v.length → x.length ≤ i → d * (l.length + 2) + 1 ≤ k → ancepsref39_Forced.l0 k x (i : Int) v l = some (forced v l d i x, 0)
  | 0, i, k + 1, x, h, hx, hk => by
    simp only [ancepsref39_Forced.l0, forced]
    rw [if_neg (by omega)]
  | d + 1, i, k + 1, x, h, hx, hk => by
    rw [Nat.succ_mul] at hk
    obtain ⟨k2, rfl⟩ : ∃ k2, k = l.length + 1 + k2 := ⟨k - (l.length + 1), by omega⟩
    have h1 : 0 ≤ (i : Int) := by omega
    have h2 : (i : Int) < (v.length : Int) := by omega
    have h3 : 0 < (l.length : Int) := by omega
    have hin := inner v l hl hv x i (by omega) (by omega) (Go.bits .and .i64 (shr .i64 (rd l 0) (i : Int)) 1) k2 l.length 0 true (by omega)
    rw [show ((0 : Nat) : Int) = 0 from rfl, Bool.true_and] at hin
    simp only [ancepsref39_Forced.l0, if_pos h1, if_pos h2, if_pos h3, forced]
    rw [hin]
    cases alike (i : Int) (Go.bits .and .i64 (shr .i64 (rd l 0) (i : Int)) 1) l l.length 0 with
    | true => rw [if_pos rfl, if_pos rfl, ref_loop v l hl hv hp d (i + 1) k2 _ (by omega) (by rw [List.length_append, List.length_singleton]; omega) (by omega)]
    | false => rw [if_neg (by decide), if_neg (by decide), ref_loop v l hl hv hp d (i + 1) k2 _ (by omega) (by omega) (by omega)]
theorem unk_loop (v l : List Int) (hl : l.length ≤ 2000) (hv : v.length ≤ 2000) (hp : 0 < l.length) : ∀ d i k (x : List S34), d + i = v.length → x.length ≤ i → d + 1 ≤ k → unknown_Forced.l0 k x v (v.length : Int) (i : Int) v l = some (forced v l d i x, 0)
  | 0, i, k + 1, x, h, hx, hk => by
    simp only [unknown_Forced.l0, forced]
    rw [if_neg (by omega)]
  | d + 1, i, k + 1, x, h, hx, hk => by
    have h1 : 0 ≤ (i : Int) := by omega
    have h2 : (i : Int) < (v.length : Int) := by omega
    have h3 : 0 < (l.length : Int) := by omega
    have h4 : x.length < 8796093022208 := by omega
    have wi := wr_succ i (by omega)
    simp only [unknown_Forced.l0, if_pos h1, if_pos h2, if_pos h3, if_pos h4, forced, wi]
    generalize Go.bits .and .i64 (shr .i64 (rd l 0) (i : Int)) 1 = b
    have ha := alike_any (i : Int) b l l.length 0 (by omega)
    rw [List.drop_zero] at ha
    rw [slices_ContainsFunc_int_int.f, if_pos ⟨h1, by omega⟩, Option.bind_some, ha]
    cases l.any (bitNe (i : Int) b) with
    | true => rw [if_pos rfl, if_neg (by decide), unk_loop v l hl hv hp d (i + 1) k _ (by omega) (by omega) (by omega)]
    | false => rw [if_neg (by decide), if_pos (by decide), unk_loop v l hl hv hp d (i + 1) k _ (by omega) (by rw [List.length_append, List.length_singleton]; omega) (by omega)]
theorem pair_loop (x : List S34) (hx : x.length ≤ 4000) : ∀ d i k, d + i = x.length → d + 1 ≤ k → api_Pair.l0 k x x (x.length : Int) (i : Int) = some true
  | 0, i, k + 1, h, hk => by
    simp only [api_Pair.l0]
    rw [if_neg (by omega)]
  | d + 1, i, k + 1, h, hk => by
    have h1 : 0 ≤ (i : Int) := by omega
    have h2 : (i : Int) < (x.length : Int) := by omega
    have wi := wr_succ i (by omega)
    simp only [api_Pair.l0, if_pos h1, if_pos h2, wi, beq_self_eq_true]
    rw [if_neg (by decide), pair_loop x hx d (i + 1) k (by omega) (by omega)]
theorem forced_length (v l : List Int) : ∀ d i (x : List S34), (forced v l d i x).length ≤ x.length + d
  | 0, i, x => Nat.le_refl _
  | d + 1, i, x => by
    rw [forced]
    split
    · have := forced_length v l d (i + 1) (x ++ [⟨rd v (i : Int), Go.bits .and .i64 (shr .i64 (rd l 0) (i : Int)) 1⟩])
      rw [List.length_append, List.length_singleton] at this
      omega
    · have := forced_length v l d (i + 1) x
      omega
/-- What both answer. -/
def answer (v l : List Int) : List S34 × Int := if errOf v l = 0 then (if (l.length : Int) = 0 then ([], 10) else (forced v l v.length 0 [], 0)) else ([], errOf v l)
theorem ref_answer (v l : List Int) (k : Nat) (hv : v.length ≤ 12) (hl : l.length ≤ 1030) (hk : 20000 ≤ k) : ancepsref39_Forced.f k v l = some (answer v l) := by
  unfold ancepsref39_Forced.f answer
  rw [rval v l k (by omega) (by omega) (by omega), Option.bind_some]
  by_cases c : errOf v l = 0
  · rw [if_pos c, if_pos c]
    by_cases c2 : (l.length : Int) = 0
    · rw [if_pos c2, if_pos c2]
    · rw [if_neg c2, if_neg c2]
      have hb : v.length * (l.length + 2) ≤ 12 * (1030 + 2) := Nat.mul_le_mul hv (by omega)
      exact ref_loop v l (by omega) (by omega) (by omega) v.length 0 k [] (by omega) (Nat.le_refl _) (by omega)
  · rw [if_neg c, if_neg c]
theorem unk_answer (v l : List Int) (k : Nat) (hv : v.length ≤ 12) (hl : l.length ≤ 1030) (hk : 20000 ≤ k) : unknown_Forced.f k v l = some (answer v l) := by
  unfold unknown_Forced.f answer
  rw [tval v l k (by omega) (by omega) (by omega), Option.bind_some]
  by_cases c : errOf v l = 0
  · rw [if_pos c, if_pos c]
    by_cases c2 : (l.length : Int) = 0
    · rw [if_pos c2, if_pos c2]
    · rw [if_neg c2, if_neg c2]
      exact unk_loop v l (by omega) (by omega) (by omega) v.length 0 k [] (by omega) (Nat.le_refl _) (by omega)
  · rw [if_neg c, if_neg c]
theorem answer_length (v l : List Int) (hv : v.length ≤ 12) : (answer v l).1.length ≤ 12 := by
  unfold answer
  split
  · split
    · exact Nat.zero_le _
    · have := forced_length v l v.length 0 []
      simp only [List.length_nil] at this
      show (forced v l v.length 0 []).length ≤ 12
      omega
  · exact Nat.zero_le _
/-- THE PLAIN LAW. -/
theorem pure_forced (v l : List Int) : ancepslaw39_UnknownForced.f 20001 v l = some true := by
  unfold ancepslaw39_UnknownForced.f ancepslaw39_awake.f
  rw [Option.bind_some, if_pos rfl]
  have away : ancepslaw39_UnknownForced.j0 20001 true v l = some true := by simp only [ancepslaw39_UnknownForced.j0, ancepslaw39_awake.f, if_pos, Option.bind_some]
  unfold ancepsref38_Few.f
  by_cases h1 : (v.length : Int) ≤ 12
  · rw [if_pos h1, Option.bind_some]
    by_cases h2 : (l.length : Int) ≤ 1030
    · rw [decide_eq_true h2]
      simp only [ancepslaw39_UnknownForced.j0, Bool.not_true]
      rw [if_neg (by decide), slices_Clone_int_int.f, if_pos (by omega), Option.bind_some, slices_Clone_int_int.f, if_pos (by omega), Option.bind_some, unk_answer v l 20000 (by omega) (by omega) (by omega), Option.bind_some,
        ref_answer v l 20000 (by omega) (by omega) (by omega), Option.bind_some, if_pos rfl]
      have ha := answer_length v l (by omega)
      unfold api_Pair.f
      rw [if_pos rfl]
      have hp := pair_loop (answer v l).1 (by omega) (answer v l).1.length 0 20000 (by omega) (by omega)
      rw [show ((0 : Nat) : Int) = 0 from rfl] at hp
      rw [hp]
      rfl
    · rw [decide_eq_false h2, Bool.not_false]
      exact away
  · rw [if_neg h1, Option.bind_some, Bool.not_false]
    exact away
end Go.Proofs.YtpgmoinalongnaaGreatDoor.U
