/- A string of frames with one turned bit has the records that end before this bit, and no others. -/
import Derived.Test.YtoepdplglablcaaJx8
import Derived.Test.YtoepdplglablcaaJA
import Derived.Test.YtoepdplglablcaaJB
import Derived.Test.YtoepdplglablcaaJC
namespace Go.Proofs.Ytoepdplglablcaa.JP
open Go.RowKit Go.Proofs.YtoepdplglablcaaW.PrintWords Go.Proofs.YtoepdplglablcaaW.PrintLast Go.Proofs.YtoepdplglablcaaW.PrintMore
open Go.Proofs.Ytoepdplglablcaa.J Go.Proofs.Ytoepdplglablcaa.Sp
set_option linter.unusedVariables false
def endsOf (l : List ByteArray) (i : Nat) : List Int := (List.range i).map fun j => ((enc ((l.map L).take (j + 1))).length : Int)
theorem endsOf_rd (l : List ByteArray) (n i : Nat) (h : i < n) : rd (endsOf l n) (i : Int) = ((enc ((l.map L).take (i + 1))).length : Int) := by
  unfold rd endsOf
  rw [Int.toNat_natCast, List.getD_eq_getElem?_getD, List.getElem?_map, List.getElem?_range h]; rfl
theorem turn_l1 (l : List ByteArray) (hl : l.length ≤ 20) (hok : Ok (l.map L)) (t : Nat) (ht : t < 8 * (enc (l.map L)).length) (d : Nat) : ∀ i, i + d = l.length → i ≤ fit (t / 8) (l.map L) →
    Ev (fun k => ancepslaw56_JournalTurn.l1 k l (B (enc (l.map L))) (endsOf l l.length) (t : Int) (i : Int)) true := by
  have hle := enc_le _ hok
  rw [List.length_map] at hle
  have ht2 : t ≤ 1000000 := by omega
  have hfl := fit_le (l.map L) (t / 8)
  rw [List.length_map] at hfl
  have hend : (endsOf l l.length).length = l.length := by simp [endsOf]
  -- what is told at the loop's end
  have hsz : (B (enc (l.map L))).size = (enc (l.map L)).length := B_size _
  have hflip := turn_flip (B (enc (l.map L))) t (by rw [hsz]; omega)
  have hpar : Parsed (L (turnBit (B (enc (l.map L))) (t : Int))) ((l.map L).take (fit (t / 8) (l.map L))) :=
    flip_parsed (l.map L) (enc (l.map L)).length _ _ hok (by rw [List.take_of_length_le (Nat.le_refl _)]; exact hflip)
  obtain ⟨K1, h1⟩ := frames_of (s := turnBit (B (enc (l.map L))) (t : Int)) (by rw [turnBit_size, hsz]; omega) hpar
  rw [map_B] at h1
  obtain ⟨K2, h2⟩ := same_ev (l.take (fit (t / 8) (l.map L))) (by rw [List.length_take]; omega)
  replace h1 : ∀ k, K1 ≤ k → journal_Frames.f k (turnBit (B (enc (l.map L))) (t : Int)) = some (l.take (fit (t / 8) (l.map L)), ((enc ((l.map L).take (fit (t / 8) (l.map L)))).length : Int)) := h1
  replace h2 : ∀ k, K2 ≤ k → ancepsref56_Same.f k (l.take (fit (t / 8) (l.map L))) (l.take (fit (t / 8) (l.map L))) = some true := h2
  have hT : ancepsref56_Turned.f (B (enc (l.map L))) (t : Int) = some (turnBit (B (enc (l.map L))) (t : Int)) := by
    simp only [ancepsref56_Turned.f]
    rw [if_pos ⟨by omega, by omega, by rw [hsz]; omega⟩, if_pos (by rw [hsz]; omega)]
  have hzero : fit (t / 8) (l.map L) = 0 → ((enc ((l.map L).take (fit (t / 8) (l.map L)))).length : Int) = 0 := by
    intro h; rw [h]; simp [enc]
  have hpos : 0 < fit (t / 8) (l.map L) → rd (endsOf l l.length) (wrap64 (((fit (t / 8) (l.map L) : Nat) : Int) - 1)) = ((enc ((l.map L).take (fit (t / 8) (l.map L)))).length : Int) := by
    intro h
    have e := wpred (fit (t / 8) (l.map L)) h (by omega)
    rw [e, endsOf_rd _ _ _ (by omega), Nat.sub_add_cancel h]
  generalize hfd : fit (t / 8) (l.map L) = f at *
  generalize hn : ((enc ((l.map L).take f)).length : Int) = n at *
  have efin : ∀ k, K1 ≤ k → K2 ≤ k → (((ancepsref56_Turned.f (B (enc (l.map L))) (t : Int)).bind fun t276 => ((journal_Frames.f k t276).bind fun bt277 => (if (f : Int) ≤ (l.length : Int) then ((ancepsref56_Same.f k bt277.1 (l.take (f : Int).toNat)).bind fun t282 => (if t282 = true then (if (f : Int) = 0 then (if bt277.2 = 0 then (some true) else (if (f : Int) > 0 then (if 0 ≤ (wrap64 ((f : Int) - 1)) then (if (wrap64 ((f : Int) - 1)) < ((endsOf l l.length).length : Int) then (some (bt277.2 == (rd (endsOf l l.length) (wrap64 ((f : Int) - 1))))) else (none)) else (none)) else (some false))) else (if (f : Int) > 0 then (if 0 ≤ (wrap64 ((f : Int) - 1)) then (if (wrap64 ((f : Int) - 1)) < ((endsOf l l.length).length : Int) then (some (bt277.2 == (rd (endsOf l l.length) (wrap64 ((f : Int) - 1))))) else (none)) else (none)) else (some false))) else (some false))) else (none))))) = some true := by
    intro k hk1 hk2
    rw [hT]
    simp only [Option.bind_some]
    rw [h1 k hk1]
    simp only [Option.bind_some, Int.toNat_natCast]
    rw [if_pos (by omega), h2 k hk2]
    simp only [Option.bind_some, if_true]
    by_cases hf0 : f = 0
    · rw [if_pos (by omega), if_pos (hzero hf0)]
    · have e := wpred f (by omega) (by omega)
      rw [if_neg (by omega), if_pos (by omega), hpos (by omega), e, if_pos (by omega), if_pos (by rw [hend]; omega)]
      simp
  induction d with
  | zero =>
    intro i hi hif
    obtain rfl : i = l.length := by omega
    have hfe : f = l.length := by omega
    refine ⟨K1 + K2 + 1, fun k hk => ?_⟩
    obtain ⟨k, rfl⟩ : ∃ m, k = m + 1 := ⟨k - 1, by omega⟩
    simp only [ancepslaw56_JournalTurn.l1]
    rw [if_neg (by rw [hend]; omega)]
    have := efin k (by omega) (by omega)
    rw [hfe] at this
    simp only [show (0 : Int) ≤ (l.length : Int) from by omega, if_true]
    exact this
  | succ d ih =>
    intro i hi hif
    by_cases hlt : i < f
    · obtain ⟨K3, h3⟩ := ih (i + 1) (by omega) (by omega)
      replace h3 : ∀ k, K3 ≤ k → ancepslaw56_JournalTurn.l1 k l (B (enc (l.map L))) (endsOf l l.length) (t : Int) ((i + 1 : Nat) : Int) = some true := h3
      refine ⟨K3 + 1, fun k hk => ?_⟩
      obtain ⟨k, rfl⟩ : ∃ m, k = m + 1 := ⟨k - 1, by omega⟩
      have hk3 : K3 ≤ k := by omega
      have hin : (i : Int) < ((endsOf l l.length).length : Int) := by rw [hend]; omega
      have hi0 : (0 : Int) ≤ (i : Int) := by omega
      have hil : i < l.length := by omega
      have e1 := wsucc i (by omega)
      have e2 := wdiv8 t ht2
      simp only [ancepslaw56_JournalTurn.l1]
      rw [if_pos hin, if_pos hi0, endsOf_rd _ _ _ hil, e2, if_pos (Int.ofNat_le.2 ((fit_spec (l.map L) (t / 8) i (by rw [List.length_map]; exact hil)).2 (by rw [hfd]; exact hlt))), e1, h3 k hk3]
    · obtain rfl : i = f := by omega
      refine ⟨K1 + K2 + 1, fun k hk => ?_⟩
      obtain ⟨k, rfl⟩ : ∃ m, k = m + 1 := ⟨k - 1, by omega⟩
      have hs : ¬ (enc ((l.map L).take (i + 1))).length ≤ t / 8 := fun h => by
        have := (fit_spec (l.map L) (t / 8) i (by rw [List.length_map]; omega)).1 h
        omega
      have e2 := wdiv8 t ht2
      simp only [ancepslaw56_JournalTurn.l1]
      rw [if_pos (by rw [hend]; omega), if_pos (by omega), endsOf_rd _ _ _ (by omega), e2, if_neg (fun h => hs (Int.ofNat_le.1 h))]
      exact efin k (by omega) (by omega)

theorem turn_l0 (l : List ByteArray) (hl : l.length ≤ 20) (a : Int) (ha : 0 ≤ a ∧ a ≤ 65535) (d : Nat) : ∀ i, i + d = l.length → Ok ((l.take i).map L) →
    Ev (fun k => ancepslaw56_JournalTurn.l0 k l a (B (enc ((l.take i).map L))) (endsOf l i) l (l.length : Int) (i : Int)) true := by
  induction d with
  | zero =>
    intro i hi hok
    obtain rfl : i = l.length := by omega
    rw [List.take_of_length_le (Nat.le_refl _)] at hok ⊢
    have hle := enc_le _ hok
    rw [List.length_map] at hle
    by_cases h0 : enc (l.map L) = []
    · refine ⟨1, fun k hk => ?_⟩
      obtain ⟨k, rfl⟩ : ∃ m, k = m + 1 := ⟨k - 1, by omega⟩
      simp only [ancepslaw56_JournalTurn.l0]
      rw [if_neg (by omega), if_pos (by rw [ByteArray.toList_eq]; exact h0)]
    · have hlen : 0 < (enc (l.map L)).length := List.length_pos_iff.2 h0
      have hw : wrap64 (8 * ((B (enc (l.map L))).size : Int)) = ((8 * (enc (l.map L)).length : Nat) : Int) := by rw [B_size]; unfold wrap64; omega
      have hwa : wrap64 a = a := by unfold wrap64; omega
      obtain ⟨n, rfl⟩ := Int.eq_ofNat_of_zero_le ha.1
      have ht : Int.tmod (n : Int) ((8 * (enc (l.map L)).length : Nat) : Int) = ((n % (8 * (enc (l.map L)).length) : Nat) : Int) := by
        rw [Int.tmod_eq_emod_of_nonneg (by omega)]; rfl
      obtain ⟨K, h⟩ := turn_l1 l hl hok (n % (8 * (enc (l.map L)).length)) (Nat.mod_lt _ (by omega)) l.length 0 (by omega) (by omega)
      replace h : ∀ k, K ≤ k → ancepslaw56_JournalTurn.l1 k l (B (enc (l.map L))) (endsOf l l.length) ((n % (8 * (enc (l.map L)).length) : Nat) : Int) 0 = some true := h
      refine ⟨K + 1, fun k hk => ?_⟩
      obtain ⟨k, rfl⟩ : ∃ m, k = m + 1 := ⟨k - 1, by omega⟩
      simp only [ancepslaw56_JournalTurn.l0]
      rw [if_neg (by omega), if_neg (by rw [ByteArray.toList_eq]; exact h0), hw, if_neg (by omega), hwa, ht, h k (by omega)]
  | succ d ih =>
    intro i hi hok
    have hil : i < l.length := by omega
    have hrd := rdOf_get l i hil
    have hle := enc_le _ hok
    rw [List.length_map, List.length_take] at hle
    by_cases hp : l[i].size ≤ 400
    · obtain ⟨K1, h1⟩ := frame_ev l[i] (by omega)
      have hok' : Ok ((l.take (i + 1)).map L) := by
        rw [take_snoc l i hil, List.map_append]
        exact hok.append (fun q hq => by simp at hq; rw [hq, L_len]; exact hp)
      obtain ⟨K2, h2⟩ := ih (i + 1) (by omega) hok'
      replace h1 : ∀ k, K1 ≤ k → journal_Frame.f k l[i] = some (if l[i].size ≤ 400 then (B (frame (L l[i])), 0) else (B [], 3)) := h1
      replace h2 : ∀ k, K2 ≤ k → ancepslaw56_JournalTurn.l0 k l a (B (enc ((l.take (i + 1)).map L))) (endsOf l (i + 1)) l (l.length : Int) ((i + 1 : Nat) : Int) = some true := h2
      have hs : B (enc ((l.take (i + 1)).map L)) = B (enc ((l.take i).map L)) ++ B (frame (L l[i])) := by
        rw [take_snoc l i hil, List.map_append, enc_append, B_app]; simp [enc]
      have he : endsOf l (i + 1) = endsOf l i ++ [((B (enc ((l.take i).map L))).size : Int) + ((B (frame (L l[i]))).size : Int)] := by
        unfold endsOf
        rw [List.range_succ, List.map_append]
        congr 1
        simp only [List.map_cons, List.map_nil]
        rw [← List.map_take, ← Int.natCast_add, ← ByteArray.size_append, ← hs, B_size]
      have e1 := wsucc i (by omega)
      refine ⟨K1 + K2 + 1, fun k hk => ?_⟩
      obtain ⟨k, rfl⟩ : ∃ m, k = m + 1 := ⟨k - 1, by omega⟩
      simp only [ancepslaw56_JournalTurn.l0]
      rw [if_pos (by omega), if_pos (by omega), if_pos (by omega), hrd, h1 k (by omega), if_pos hp]
      simp only [Option.bind_some, if_true]
      rw [if_pos (by rw [B_size, B_size, frame_length, L_len]; omega), if_pos (by simp [endsOf]; omega), e1, ← hs, ← he, h2 k (by omega)]
    · obtain ⟨K1, h1⟩ : Ev (fun k => journal_Frame.f k l[i]) (B [], 3) := by
        refine ⟨0, fun k _ => ?_⟩
        simp only [journal_Frame.f]; rw [if_pos (by omega)]; rfl
      replace h1 : ∀ k, K1 ≤ k → journal_Frame.f k l[i] = some (B [], 3) := h1
      refine ⟨K1 + 1, fun k hk => ?_⟩
      obtain ⟨k, rfl⟩ : ∃ m, k = m + 1 := ⟨k - 1, by omega⟩
      simp only [ancepslaw56_JournalTurn.l0]
      rw [if_pos (by omega), if_pos (by omega), if_pos (by omega), hrd, h1 k (by omega)]
      simp only [Option.bind_some]
      rw [if_neg (by decide), decide_eq_true (by omega)]

theorem law_turn (l : List ByteArray) (a : Int) (ha : 0 ≤ a ∧ a ≤ 65535) : ∃ k, ancepslaw56_JournalTurn.f k l a = some true := by
  obtain ⟨K0, h0⟩ := awake_ev
  replace h0 : ∀ k, K0 ≤ k → ancepslaw56_awake.f k = some true := h0
  by_cases hg : l.length ≤ 20
  · obtain ⟨K1, h1⟩ := turn_l0 l hg a ha l.length 0 (by omega) (fun q hq => by simp at hq)
    replace h1 : ∀ k, K1 ≤ k → ancepslaw56_JournalTurn.l0 k l a (⟨#[]⟩ : ByteArray) ([] : List Int) l (l.length : Int) 0 = some true := h1
    refine ⟨K0 + K1 + 1, ?_⟩
    simp only [ancepslaw56_JournalTurn.f]
    rw [h0 _ (by omega)]
    simp only [Option.bind_some, if_true]
    rw [decide_eq_false (by omega)]
    simp only [ancepslaw56_JournalTurn.j0]
    rw [if_neg (by decide), h1 _ (by omega)]
  · refine ⟨K0 + 1, ?_⟩
    simp only [ancepslaw56_JournalTurn.f]
    rw [h0 _ (by omega)]
    simp only [Option.bind_some, if_true]
    rw [decide_eq_true (by omega)]
    simp only [ancepslaw56_JournalTurn.j0]
    rw [if_pos trivial, h0 _ (by omega)]
    rfl
end Go.Proofs.Ytoepdplglablcaa.JP
namespace Go.Proofs.Ytoepdplglablcaa.Pure
open Go.Proofs.Ytoepdplglablcaa.J
theorem JournalTurn (l : List ByteArray) (a : Int) (ha : (Lit.int .u16 a).wf = true) : ∃ k, ancepslaw56_JournalTurn.f k l a = some true := JP.law_turn l a (by simp only [Lit.wf, decide_eq_true_eq, Bool.and_eq_true] at ha; exact ha)
end Go.Proofs.Ytoepdplglablcaa.Pure
