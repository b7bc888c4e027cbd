/- Behind anything that is done the records behind a crash are the first ones of those before it, and none is lost that was synced. -/
import Derived.Test.YtoepdplglablcaaJx11
import Derived.Test.YtoepdplglablcaaJA
import Derived.Test.YtoepdplglablcaaJB
import Derived.Test.YtoepdplglablcaaJC
namespace Go.Proofs.Ytoepdplglablcaa.JP
open Go.RowKit Go.Proofs.YtoepdplglablcaaW.PrintWords Go.Proofs.YtoepdplglablcaaW.PrintLast Go.Proofs.YtoepdplglablcaaW.PrintMore
open Go.Proofs.Ytoepdplglablcaa.J Go.Proofs.Ytoepdplglablcaa.Sp
set_option linter.unusedVariables false
theorem recover_of {a b : ByteArray} (hs : a.size + b.size ≤ 1000000) {l : List (List UInt8)} (h : Parsed (L a ++ L b) l) :
    Ev (fun k => journal_Recover.f k a b) (B (enc l), (⟨#[]⟩ : ByteArray), l.map B) ∧ Ev (fun k => ancepsref56_Recover.f k a b) (B (enc l), (⟨#[]⟩ : ByteArray), l.map B) := by
  obtain ⟨K, hK⟩ := frames_of (s := a ++ b) (by rw [ByteArray.size_append]; exact hs) (by rw [L_app]; exact h)
  obtain ⟨K2, hK2⟩ := rframes_of (s := a ++ b) (by rw [ByteArray.size_append]; exact hs) (by rw [L_app]; exact h)
  replace hK : ∀ k, K ≤ k → journal_Frames.f k (a ++ b) = some (l.map B, ((enc l).length : Int)) := hK
  replace hK2 : ∀ k, K2 ≤ k → ancepsref56_Frames.f k (a ++ b) = some (l.map B, ((enc l).length : Int)) := hK2
  have hle := (parsed_len h).2
  rw [List.length_append, L_len, L_len] at hle
  have hcut : (a ++ b).extract 0 (((enc l).length : Int)).toNat = B (enc l) := by
    apply L_inj
    obtain ⟨_, r, e, _⟩ := h
    rw [L_ext, L_app, e, Int.toNat_natCast, List.take_left, L_B]; rfl
  constructor
  · refine ⟨K, fun k hk => ?_⟩
    simp only [journal_Recover.f]
    rw [if_pos (by omega), hK k hk]
    simp only [Option.bind_some]
    rw [if_pos (by omega), if_pos (by omega), hcut]
  · refine ⟨K2, fun k hk => ?_⟩
    simp only [ancepsref56_Recover.f]
    rw [if_pos (by omega), hK2 k hk]
    simp only [Option.bind_some]
    rw [if_pos (by omega), if_pos (by omega), hcut]


/-! ### JournalRuns -/
def Fine (x : S51) : Prop := (0 ≤ x.f0 ∧ x.f0 ≤ 255) ∧ (0 ≤ x.f2 ∧ x.f2 ≤ 65535) ∧ (0 ≤ x.f3 ∧ x.f3 ≤ 65535)

theorem begins_ev (A C : List ByteArray) (h : A.length ≤ C.length) (he : C.take A.length = A) (hl : C.length ≤ 1000000) : Ev (fun k => ancepsref56_Begins.f k A C) true := by
  obtain ⟨K, hK⟩ := same_ev A (by omega)
  refine ⟨K, fun k hk => ?_⟩
  simp only [ancepsref56_Begins.f]
  rw [if_pos h, he]
  exact hK k hk

theorem rd51 (l : List S51) (i : Nat) (h : i < l.length) : rd_T51 l (i : Int) = l[i] := by
  unfold rd_T51
  rw [Int.toNat_natCast, List.getD_eq_getElem?_getD, List.getElem?_eq_getElem h]; rfl

theorem mod_nat (a : Int) (m : Nat) (h : 0 ≤ a) : ∃ n : Nat, Int.tmod a (m : Int) = (n : Int) ∧ n = a.toNat % m := by
  obtain ⟨v, rfl⟩ := Int.eq_ofNat_of_zero_le h
  exact ⟨v % m, by rw [Int.tmod_eq_emod_of_nonneg (by omega)]; rfl, rfl⟩

/-- A crash, and what is recovered. -/
theorem crash_rec (A Q : List (List UInt8)) (hA : Ok A) (hQ : Ok Q) (hlen : A.length + Q.length ≤ 40) (n : Nat) (hn : n ≤ (enc Q).length) (t : Int) (ht : t = -1 ∨ (0 ≤ t ∧ t < 8 * (n : Int))) :
    ∃ a m, m ≤ Q.length ∧ a.size ≤ 100000 ∧ journal_Crash.f (B (enc A)) (B (enc Q)) (n : Int) t = some (a, (⟨#[]⟩ : ByteArray), 0) ∧ Parsed (L a ++ L (⟨#[]⟩ : ByteArray)) (A ++ Q.take m) := by
  have hlA := enc_le _ hA
  have hlQ := enc_le _ hQ
  rcases ht with rfl | ⟨h0, h1⟩
  · refine ⟨B (enc A ++ (enc Q).take n), fit n Q, fit_le _ _, by rw [B_size, List.length_append, List.length_take]; omega, ?_, ?_⟩
    · rw [crash_cut _ _ _ (by rw [B_size]; omega) (by rw [B_size]; omega) (by rw [B_size]; omega), B_ext, B_app]; rfl
    · rw [L_B, L_nil, List.append_nil]; exact Parsed.append hA (cut_parsed Q n hQ)
  · obtain ⟨v, rfl⟩ := Int.eq_ofNat_of_zero_le h0
    have hx : (B ((enc Q).take n)).size = n := by rw [B_size, List.length_take]; omega
    have hv : v / 8 < n := by omega
    have hflip := turn_flip (B ((enc Q).take n)) v (by rw [hx]; exact hv)
    refine ⟨B (enc A) ++ turnBit (B ((enc Q).take n)) (v : Int), fit (v / 8) Q, fit_le _ _, by rw [ByteArray.size_append, turnBit_size, hx, B_size]; omega, ?_, ?_⟩
    · simp only [journal_Crash.f]
      rw [if_pos ⟨by rw [B_size]; omega, by rw [B_size]; omega, by omega⟩, if_neg (by rw [B_size]; omega), if_pos (by omega), Int.toNat_natCast, B_ext]
      rfl
    · rw [L_nil, List.append_nil, L_app, L_B]
      exact Parsed.append hA (flip_parsed Q n _ _ hQ hflip)

theorem runs_l0 (l : List S51) (hl : l.length ≤ 40) (hf : ∀ x ∈ l, Fine x) (d : Nat) : ∀ (i : Nat) (A Q : List (List UInt8)), i + d = l.length → Ok A → Ok Q → A.length + Q.length ≤ i →
    Ev (fun k => ancepslaw56_JournalRuns.l0 k ((A ++ Q).map B) (A.length : Int) l (l.length : Int) (i : Int) (B (enc A)) (B (enc Q))) true := by
  induction d with
  | zero =>
    intro i A Q hi hA hQ hlen
    refine ⟨1, fun k hk => ?_⟩
    obtain ⟨k, rfl⟩ : ∃ m, k = m + 1 := ⟨k - 1, by omega⟩
    simp only [ancepslaw56_JournalRuns.l0]
    rw [if_neg (by omega)]
  | succ d ih =>
    intro i A Q hi hA hQ hlen
    have hil : i < l.length := by omega
    have hrd := rd51 l i hil
    obtain ⟨⟨hk0, hk1⟩, ⟨hp0, hp1⟩, ⟨ht0, ht1⟩⟩ := hf l[i] (List.getElem_mem hil)
    have hlA := enc_le _ hA
    have hlQ := enc_le _ hQ
    -- behind an operation
    have hj4 : ∀ (A' Q' : List (List UInt8)), Ok A' → Ok Q' → A'.length + Q'.length ≤ i + 1 →
        Ev (fun k => ancepslaw56_JournalRuns.j4 k ((A' ++ Q').map B) (A'.length : Int) l (l.length : Int) (i : Int) (B (enc A')) (B (enc Q'))) true := by
      intro A' Q' hA' hQ' hlen'
      have hlA' := enc_le _ hA'
      have hlQ' := enc_le _ hQ'
      obtain ⟨K1, h1⟩ := ih (i + 1) A' Q' (by omega) hA' hQ' hlen'
      have hpar : Parsed (L (B (enc A')) ++ L (B (enc Q'))) (A' ++ Q') := by rw [L_B, L_B, ← enc_append]; exact Parsed.whole (hA'.append hQ')
      obtain ⟨K2, h2⟩ := read_of (by rw [B_size, B_size]; omega) hpar
      obtain ⟨K3, h3⟩ := same_ev ((A' ++ Q').map B) (by rw [List.length_map, List.length_append]; omega)
      replace h1 : ∀ k, K1 ≤ k → ancepslaw56_JournalRuns.l0 k ((A' ++ Q').map B) (A'.length : Int) l (l.length : Int) ((i + 1 : Nat) : Int) (B (enc A')) (B (enc Q')) = some true := h1
      replace h2 : ∀ k, K2 ≤ k → journal_Read.f k (B (enc A')) (B (enc Q')) = some ((A' ++ Q').map B) := h2
      replace h3 : ∀ k, K3 ≤ k → ancepsref56_Same.f k ((A' ++ Q').map B) ((A' ++ Q').map B) = some true := h3
      refine ⟨K1 + K2 + K3 + 1, fun k hk => ?_⟩
      obtain ⟨k, rfl⟩ : ∃ m, k = m + 1 := ⟨k - 1, by omega⟩
      have e1 := Aside0.mk (wsucc i (by omega))
      simp only [ancepslaw56_JournalRuns.j4]
      rw [h2 k (by omega), Option.bind_some, h3 k (by omega), Option.bind_some, if_pos (show true = true from rfl), e1.out, h1 k (by omega)]
    obtain ⟨g, hg, hgm⟩ := mod_nat l[i].f0 3 hk0
    have hg3 : g < 3 := by rw [hgm]; exact Nat.mod_lt _ (by decide)
    rw [show ((3 : Nat) : Int) = 3 from rfl] at hg
    by_cases c0 : g = 0
    · subst c0
      by_cases hp : l[i].f1.size ≤ 400
      · obtain ⟨K1, h1⟩ := append_ev (B (enc A)) (B (enc Q)) l[i].f1 (by rw [B_size]; omega) (by rw [B_size]; omega) (by omega)
        rw [if_pos hp, if_neg (by rw [B_size, B_size]; omega), B_app] at h1
        have hs : enc Q ++ frame (L l[i].f1) = enc (Q ++ [L l[i].f1]) := by rw [enc_snoc]
        rw [hs] at h1
        obtain ⟨K2, h2⟩ := hj4 A (Q ++ [L l[i].f1]) hA (hQ.append (fun q hq => by rw [List.mem_singleton.1 hq, L_len]; exact hp)) (by rw [List.length_append]; simp; omega)
        have hm : (A ++ (Q ++ [L l[i].f1])).map B = (A ++ Q).map B ++ [l[i].f1] := by simp [B_L]
        rw [hm] at h2
        replace h1 : ∀ k, K1 ≤ k → journal_Append.f k (B (enc A)) (B (enc Q)) l[i].f1 = some (B (enc A), B (enc (Q ++ [L l[i].f1])), 0) := h1
        replace h2 : ∀ k, K2 ≤ k → ancepslaw56_JournalRuns.j4 k ((A ++ Q).map B ++ [l[i].f1]) (A.length : Int) l (l.length : Int) (i : Int) (B (enc A)) (B (enc (Q ++ [L l[i].f1]))) = some true := h2
        refine ⟨K1 + K2 + 1, fun k hk => ?_⟩
        obtain ⟨k, rfl⟩ : ∃ m, k = m + 1 := ⟨k - 1, by omega⟩
        simp only [ancepslaw56_JournalRuns.l0]
        rw [if_pos (by omega), if_pos (by omega), if_pos (by omega), hrd, hg, if_pos (show ((0 : Nat) : Int) = 0 from rfl), h1 k (by omega), Option.bind_some, if_pos (show (0 : Int) = 0 from rfl), if_pos (by rw [List.length_map, List.length_append]; omega), h2 k (by omega)]
      · obtain ⟨K1, h1⟩ : Ev (fun k => journal_Append.f k (B (enc A)) (B (enc Q)) l[i].f1) (B [], B [], 3) := by
          refine ⟨0, fun k _ => ?_⟩
          simp only [journal_Append.f, journal_Frame.f]
          rw [if_pos (by omega)]
          simp only [Option.bind_some]
          rw [if_neg (by decide)]; rfl
        replace h1 : ∀ k, K1 ≤ k → journal_Append.f k (B (enc A)) (B (enc Q)) l[i].f1 = some (B [], B [], 3) := h1
        refine ⟨K1 + 1, fun k hk => ?_⟩
        obtain ⟨k, rfl⟩ : ∃ m, k = m + 1 := ⟨k - 1, by omega⟩
        simp only [ancepslaw56_JournalRuns.l0]
        rw [if_pos (by omega), if_pos (by omega), if_pos (by omega), hrd, hg, if_pos (show ((0 : Nat) : Int) = 0 from rfl), h1 k (by omega), Option.bind_some, if_neg (show ¬ (3 : Int) = 0 by decide), if_pos (by omega)]
        rfl
    · by_cases c1 : g = 1
      · subst c1
        obtain ⟨K2, h2⟩ := hj4 (A ++ Q) [] (hA.append hQ) (fun q hq => by simp at hq) (by rw [List.length_append]; simp; omega)
        have hm : ((A ++ Q) ++ []).map B = (A ++ Q).map B := by rw [List.append_nil]
        have hz : B (enc []) = (⟨#[]⟩ : ByteArray) := rfl
        rw [hm, hz, enc_append] at h2
        replace h2 : ∀ k, K2 ≤ k → ancepslaw56_JournalRuns.j4 k ((A ++ Q).map B) ((A ++ Q).length : Int) l (l.length : Int) (i : Int) (B (enc A ++ enc Q)) (⟨#[]⟩ : ByteArray) = some true := h2
        refine ⟨K2 + 1, fun k hk => ?_⟩
        obtain ⟨k, rfl⟩ : ∃ m, k = m + 1 := ⟨k - 1, by omega⟩
        simp only [ancepslaw56_JournalRuns.l0]
        rw [if_pos (by omega), if_pos (by omega), if_pos (by omega), hrd, hg, if_neg (show ¬ ((1 : Nat) : Int) = 0 by decide), if_pos (show ((1 : Nat) : Int) = 1 from rfl), journal_Sync.f, if_pos (by rw [B_size, B_size]; omega), Option.bind_some, B_app, List.length_map, h2 k (by omega)]
      · obtain rfl : g = 2 := by omega
        have hbs : (B (enc Q)).size = (enc Q).length := B_size _
        have hw : Aside0 (wrap64 (((B (enc Q)).size : Int) + 1) = (((enc Q).length + 1 : Nat) : Int)) := ⟨by rw [hbs]; exact wsucc _ (by omega)⟩
        have hwp : Aside0 (wrap64 l[i].f2 = l[i].f2) := ⟨w64 _ (by omega) (by omega)⟩
        have hwt : Aside0 (wrap64 l[i].f3 = l[i].f3) := ⟨w64 _ (by omega) (by omega)⟩
        obtain ⟨n, hn, hnm⟩ := mod_nat l[i].f2 ((enc Q).length + 1) hp0
        have hnl : n < (enc Q).length + 1 := by rw [hnm]; exact Nat.mod_lt _ (by omega)
        clear hnm hgm
        have hne : ¬ (((enc Q).length + 1 : Nat) : Int) = 0 := by omega
        -- behind the crash
        have hj3 : ∀ t : Int, (t = -1 ∨ (0 ≤ t ∧ t < 8 * (n : Int))) → Ev (fun k => ancepslaw56_JournalRuns.j3 k ((A ++ Q).map B) (A.length : Int) (n : Int) t l (l.length : Int) (i : Int) (B (enc A)) (B (enc Q))) true := by
          intro t ht
          obtain ⟨a, m, hm, hsz, hc, hpar⟩ := crash_rec A Q hA hQ (by omega) n (by omega) t ht
          obtain ⟨⟨K1, h1⟩, _⟩ := recover_of (by rw [size_mt]; omega) hpar
          have hleft : ((A ++ Q).map B).take ((A ++ Q.take m).map B).length = (A ++ Q.take m).map B := by
            rw [← List.map_take, List.length_map, List.length_append, List.length_take, Nat.min_eq_left hm, List.take_append, List.take_of_length_le (by omega)]
            congr 3
            omega
          obtain ⟨K2, h2⟩ := begins_ev ((A ++ Q.take m).map B) ((A ++ Q).map B) (by rw [List.length_map, List.length_map, List.length_append, List.length_append, List.length_take]; omega) hleft (by rw [List.length_map, List.length_append]; omega)
          obtain ⟨K3, h3⟩ := hj4 (A ++ Q.take m) [] (hA.append (hQ.take m)) (fun q hq => by simp at hq) (by rw [List.length_append, List.length_take]; simp; omega)
          have hz : B (enc []) = (⟨#[]⟩ : ByteArray) := rfl
          rw [List.append_nil, hz] at h3
          replace h1 : ∀ k, K1 ≤ k → journal_Recover.f k a (⟨#[]⟩ : ByteArray) = some (B (enc (A ++ Q.take m)), (⟨#[]⟩ : ByteArray), (A ++ Q.take m).map B) := h1
          replace h2 : ∀ k, K2 ≤ k → ancepsref56_Begins.f k ((A ++ Q.take m).map B) ((A ++ Q).map B) = some true := h2
          replace h3 : ∀ k, K3 ≤ k → ancepslaw56_JournalRuns.j4 k ((A ++ Q.take m).map B) ((A ++ Q.take m).length : Int) l (l.length : Int) (i : Int) (B (enc (A ++ Q.take m))) (⟨#[]⟩ : ByteArray) = some true := h3
          refine ⟨K1 + K2 + K3 + 1, fun k hk => ?_⟩
          obtain ⟨k, rfl⟩ : ∃ m, k = m + 1 := ⟨k - 1, by omega⟩
          simp only [ancepslaw56_JournalRuns.j3]
          rw [hc, Option.bind_some, h1 k (by omega), Option.bind_some, if_pos (show (0 : Int) = 0 from rfl), h2 k (by omega), Option.bind_some, if_pos (show true = true from rfl), List.length_map, if_neg (by rw [List.length_append]; omega), h3 k (by omega)]
        -- is a bit turned
        have hj2 : ∀ b : Bool, (b = true → 0 < n) → ∀ y0 y1 y2, Ev (fun k => ancepslaw56_JournalRuns.j2 k ((A ++ Q).map B) (A.length : Int) (n : Int) (-1) l (l.length : Int) (i : Int) b (B (enc A)) (B (enc Q)) y0 y1 y2 l[i].f3) true := by
          intro b hb y0 y1 y2
          cases b with
          | false =>
            obtain ⟨K, h⟩ := hj3 (-1) (.inl rfl)
            refine ⟨K + 1, fun k hk => ?_⟩
            obtain ⟨k, rfl⟩ : ∃ m, k = m + 1 := ⟨k - 1, by omega⟩
            simp only [ancepslaw56_JournalRuns.j2]
            rw [if_neg (by decide)]
            exact h k (by omega)
          | true =>
            have hn0 := hb rfl
            have hw8 : Aside0 (wrap64 (8 * (n : Int)) = ((8 * n : Nat) : Int)) := ⟨by rw [w64 _ (by omega) (by omega)]; omega⟩
            obtain ⟨t, ht, htm⟩ := mod_nat l[i].f3 (8 * n) ht0
            have htl : t < 8 * n := by rw [htm]; exact Nat.mod_lt _ (by omega)
            clear htm
            obtain ⟨K, h⟩ := hj3 (t : Int) (.inr ⟨by omega, by omega⟩)
            refine ⟨K + 1, fun k hk => ?_⟩
            obtain ⟨k, rfl⟩ : ∃ m, k = m + 1 := ⟨k - 1, by omega⟩
            have hne8 : ¬ ((8 * n : Nat) : Int) = 0 := by omega
            have hkk : K ≤ k := by omega
            simp only [ancepslaw56_JournalRuns.j2]
            rw [if_pos trivial, hw8.out, if_neg hne8, hwt.out, ht]
            exact h k hkk
        by_cases hn0 : 0 < n
        · obtain ⟨K, h⟩ := hj2 (decide ((Int.tmod l[i].f3 3) > 0)) (fun _ => hn0) l[i].f0 l[i].f1 l[i].f2
          refine ⟨K + 1, fun k hk => ?_⟩
          obtain ⟨k, rfl⟩ : ∃ m, k = m + 1 := ⟨k - 1, by omega⟩
          have hkk : K ≤ k := by omega
          simp only [ancepslaw56_JournalRuns.l0]
          rw [if_pos (by omega), if_pos (by omega), if_pos (by omega), hrd, hg, if_neg (show ¬ ((2 : Nat) : Int) = 0 by decide), if_neg (show ¬ ((2 : Nat) : Int) = 1 by decide), hw.out, if_neg hne, hwp.out, hn, if_pos (by omega)]
          exact h k hkk
        · obtain ⟨K, h⟩ := hj2 false (fun h => by cases h) l[i].f0 l[i].f1 l[i].f2
          refine ⟨K + 1, fun k hk => ?_⟩
          obtain ⟨k, rfl⟩ : ∃ m, k = m + 1 := ⟨k - 1, by omega⟩
          have hkk : K ≤ k := by omega
          simp only [ancepslaw56_JournalRuns.l0]
          rw [if_pos (by omega), if_pos (by omega), if_pos (by omega), hrd, hg, if_neg (show ¬ ((2 : Nat) : Int) = 0 by decide), if_neg (show ¬ ((2 : Nat) : Int) = 1 by decide), hw.out, if_neg hne, hwp.out, hn, if_neg (by omega)]
          exact h k hkk

theorem law_runs (l : List S51) (hf : ∀ x ∈ l, Fine x) : ∃ k, ancepslaw56_JournalRuns.f k l = some true := by
  obtain ⟨K0, h0⟩ := awake_ev
  replace h0 : ∀ k, K0 ≤ k → ancepslaw56_awake.f k = some true := h0
  by_cases hg : l.length ≤ 40
  · obtain ⟨K1, h1⟩ := runs_l0 l hg hf l.length 0 [] [] (by omega) (fun q hq => by simp at hq) (fun q hq => by simp at hq) (by simp)
    replace h1 : ∀ k, K1 ≤ k → ancepslaw56_JournalRuns.l0 k ([] : List ByteArray) 0 l (l.length : Int) 0 (⟨#[]⟩ : ByteArray) (⟨#[]⟩ : ByteArray) = some true := h1
    refine ⟨K0 + K1 + 1, ?_⟩
    simp only [ancepslaw56_JournalRuns.f]
    rw [h0 _ (by omega)]
    simp only [Option.bind_some, if_true]
    rw [decide_eq_false (by omega)]
    simp only [ancepslaw56_JournalRuns.j0, journal_New.f]
    rw [if_neg (by decide)]
    simp only [Option.bind_some]
    rw [h1 _ (by omega)]
  · refine ⟨K0 + 1, ?_⟩
    simp only [ancepslaw56_JournalRuns.f]
    rw [h0 _ (by omega)]
    simp only [Option.bind_some, if_true]
    rw [decide_eq_true (by omega)]
    simp only [ancepslaw56_JournalRuns.j0]
    rw [if_pos trivial, h0 _ (by omega)]
    rfl
end Go.Proofs.Ytoepdplglablcaa.JP
namespace Go.Proofs.Ytoepdplglablcaa.Pure
open Go.Proofs.Ytoepdplglablcaa.J
theorem JournalRuns (l : List S51) (h : ∀ x ∈ l, (Lit.int .u8 x.f0).wf = true ∧ x.f1.size ≤ maxLen ∧ (Lit.int .u16 x.f2).wf = true ∧ (Lit.int .u16 x.f3).wf = true) : ∃ k, ancepslaw56_JournalRuns.f k l = some true := by
  refine JP.law_runs l fun x hx => ?_
  obtain ⟨h0, _, h2, h3⟩ := h x hx
  simp only [Lit.wf, decide_eq_true_eq, Bool.and_eq_true] at h0 h2 h3
  exact ⟨h0, h2, h3⟩
end Go.Proofs.Ytoepdplglablcaa.Pure
