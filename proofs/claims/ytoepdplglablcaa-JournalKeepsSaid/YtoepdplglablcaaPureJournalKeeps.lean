/- A crash behind which everything that was cached remains, and no bit is turned, loses no record of a journal of frames. -/
import Derived.Test.YtoepdplglablcaaJx9
import Derived.Test.YtoepdplglablcaaJA
import Derived.Test.YtoepdplglablcaaJB
import Derived.Test.YtoepdplglablcaaJC
namespace Go.Proofs.Ytoepdplglablcaa.JP
open Go.RowKit Go.Proofs.YtoepdplglablcaaW.PrintWords Go.Proofs.YtoepdplglablcaaW.PrintLast Go.Proofs.YtoepdplglablcaaW.PrintMore
open Go.Proofs.Ytoepdplglablcaa.J Go.Proofs.Ytoepdplglablcaa.Sp
set_option linter.unusedVariables false
theorem keeps_l1 (l : List ByteArray) (hl : l.length ≤ 20) (hok : Ok (l.map L)) (n : Nat) (hn : n ≤ (enc (l.map L)).length) (d : Nat) : ∀ i, i + d = l.length → i ≤ fit n (l.map L) →
    Ev (fun k => ancepslaw56_JournalKeeps.l1 k l (n : Int) (i : Int) ((enc ((l.take i).map L)).length : Int) (B ((enc (l.map L)).take n)) (⟨#[]⟩ : ByteArray)) true := by
  have hle := enc_le _ hok
  rw [List.length_map] at hle
  have hfl := fit_le (l.map L) n
  rw [List.length_map] at hfl
  have hpar : Parsed (L (B ((enc (l.map L)).take n)) ++ L (⟨#[]⟩ : ByteArray)) ((l.map L).take (fit n (l.map L))) := by
    rw [L_B, L_nil, List.append_nil]; exact cut_parsed _ _ hok
  obtain ⟨K1, h1⟩ := read_of (by rw [B_size, List.length_take, size_mt]; omega) hpar
  rw [map_B] at h1
  obtain ⟨K2, h2⟩ := same_ev (l.take (fit n (l.map L))) (by rw [List.length_take]; omega)
  generalize hfd : fit n (l.map L) = f at *
  replace h1 : ∀ k, K1 ≤ k → journal_Read.f k (B ((enc (l.map L)).take n)) (⟨#[]⟩ : ByteArray) = some (l.take f) := h1
  replace h2 : ∀ k, K2 ≤ k → ancepsref56_Same.f k (l.take f) (l.take f) = some true := h2
  induction d with
  | zero =>
    intro i hi hif
    obtain rfl : i = l.length := by omega
    have hfe : f = l.length := by omega
    subst hfe
    refine ⟨K1 + K2 + 1, fun k hk => ?_⟩
    obtain ⟨k, rfl⟩ : ∃ m, k = m + 1 := ⟨k - 1, by omega⟩
    simp only [ancepslaw56_JournalKeeps.l1]
    rw [if_neg (by omega), h1 k (by omega)]
    simp only [Option.bind_some, Int.toNat_natCast]
    rw [if_pos (by omega), if_pos (by omega), h2 k (by omega)]
    rfl
  | succ d ih =>
    intro i hi hif
    have hil : i < l.length := by omega
    have hrd := rdOf_get l i hil
    have hsnoc : (enc ((l.take (i + 1)).map L)).length = (enc ((l.take i).map L)).length + (8 + l[i].size) := by
      rw [take_snoc l i hil, List.map_append, enc_append, List.length_append]; simp [enc, frame_length, L_len]
    have htk : (enc ((l.map L).take (i + 1))).length = (enc ((l.take (i + 1)).map L)).length := by rw [List.map_take]
    have hokt : Ok ((l.take (i + 1)).map L) := by rw [List.map_take]; exact hok.take _
    have hlet := enc_le _ hokt
    rw [List.length_map, List.length_take] at hlet
    have hspec := fit_spec (l.map L) n i (by rw [List.length_map]; exact hil)
    rw [hfd, htk, hsnoc] at hspec
    replace hspec := Aside0.mk hspec
    have hA : (enc ((l.take i).map L)).length ≤ 1000000 := by omega
    have hZ : l[i].size ≤ 1000000 := by omega
    have w1 := wadd1 _ _ hA hZ
    have w2 := wadd2 _ _ hA hZ
    rw [← hsnoc] at w2
    replace w1 := Aside0.mk w1
    replace w2 := Aside0.mk w2
    by_cases hlt : i < f
    · obtain ⟨K3, h3⟩ := ih (i + 1) (by omega) (by omega)
      replace h3 : ∀ k, K3 ≤ k → ancepslaw56_JournalKeeps.l1 k l (n : Int) ((i + 1 : Nat) : Int) ((enc ((l.take (i + 1)).map L)).length : Int) (B ((enc (l.map L)).take n)) (⟨#[]⟩ : ByteArray) = some true := h3
      refine ⟨K3 + 1, fun k hk => ?_⟩
      obtain ⟨k, rfl⟩ : ∃ m, k = m + 1 := ⟨k - 1, by omega⟩
      have e1 := Aside0.mk (wsucc i (by omega))
      simp only [ancepslaw56_JournalKeeps.l1]
      rw [if_pos (by omega), if_pos (by omega), hrd, w1.out, if_pos (Int.ofNat_le.2 (hspec.out.2 hlt)), e1.out, w2.out, h3 k (by omega)]
    · obtain rfl : i = f := by omega
      refine ⟨K1 + K2 + 1, fun k hk => ?_⟩
      obtain ⟨k, rfl⟩ : ∃ m, k = m + 1 := ⟨k - 1, by omega⟩
      simp only [ancepslaw56_JournalKeeps.l1]
      rw [if_pos (by omega), if_pos (by omega), hrd, w1.out, if_neg (fun h => hlt (hspec.out.1 (Int.ofNat_le.1 h))), h1 k (by omega)]
      simp only [Option.bind_some, Int.toNat_natCast]
      rw [if_pos (by omega), h2 k (by omega)]
      rfl

theorem keeps_l0 (l : List ByteArray) (hl : l.length ≤ 20) (a : Int) (ha : 0 ≤ a ∧ a ≤ 65535) (d : Nat) : ∀ i, i + d = l.length → Ok ((l.take i).map L) →
    Ev (fun k => ancepslaw56_JournalKeeps.l0 k l a l (l.length : Int) (i : Int) (⟨#[]⟩ : ByteArray) (B (enc ((l.take i).map L)))) true := by
  induction d with
  | zero =>
    intro i hi hok
    obtain rfl : i = l.length := by omega
    rw [List.take_of_length_le (Nat.le_refl _)] at hok ⊢
    have hle := enc_le _ hok
    rw [List.length_map] at hle
    generalize hE : enc (l.map L) = E at *
    have hbs : (B E).size = E.length := B_size _
    obtain ⟨v, rfl⟩ := Int.eq_ofNat_of_zero_le ha.1
    have hw : Aside0 (wrap64 (((B E).size : Int) + 1) = ((E.length + 1 : Nat) : Int)) := ⟨by rw [hbs]; exact wsucc _ (by omega)⟩
    have hwa : Aside0 (wrap64 (v : Int) = (v : Int)) := ⟨w64 _ (by omega) (by omega)⟩
    have ht : Int.tmod (v : Int) ((E.length + 1 : Nat) : Int) = ((v % (E.length + 1) : Nat) : Int) := by
      rw [Int.tmod_eq_emod_of_nonneg (by omega)]; rfl
    have hnlt : v % (E.length + 1) < E.length + 1 := Nat.mod_lt _ (by omega)
    generalize hn : v % (E.length + 1) = n at *
    have c1 : journal_Crash.f (⟨#[]⟩ : ByteArray) (B E) ((B E).size : Int) (-1) = some (B E, (⟨#[]⟩ : ByteArray), 0) := by
      rw [crash_cut _ _ _ (by rw [size_mt]; omega) (by omega) (Nat.le_refl _), ext_whole, B_nil_app]
    have c2 : journal_Crash.f (⟨#[]⟩ : ByteArray) (B E) (n : Int) (-1) = some (B (E.take n), (⟨#[]⟩ : ByteArray), 0) := by
      rw [crash_cut _ _ _ (by rw [size_mt]; omega) (by omega) (by omega), B_nil_app, B_ext]; rfl
    have c3 : journal_Crash.f (B E) (⟨#[]⟩ : ByteArray) 0 (-1) = some (B E, (⟨#[]⟩ : ByteArray), 0) := by
      have := crash_cut (B E) (⟨#[]⟩ : ByteArray) 0 (by omega) (by rw [size_mt]; omega) (by omega)
      rw [show ((0 : Nat) : Int) = 0 from rfl] at this
      rw [this]
      congr 2
      apply L_inj
      rw [L_app, L_ext, L_nil, List.take_nil, List.drop_nil, List.append_nil]
    have hpar : Parsed (L (B E) ++ L (⟨#[]⟩ : ByteArray)) (l.map L) := by rw [L_B, L_nil, List.append_nil, ← hE]; exact Parsed.whole hok
    obtain ⟨K1, h1⟩ := read_of (by rw [hbs, size_mt]; omega) hpar
    have hm : (l.map L).map B = l := by rw [List.map_map]; exact (List.map_congr_left (fun a _ => rfl)).trans (List.map_id l)
    rw [hm] at h1
    obtain ⟨K2, h2⟩ := same_ev l (by omega)
    obtain ⟨K3, h3⟩ := keeps_l1 l hl hok n (by rw [hE]; omega) l.length 0 (by omega) (by omega)
    rw [hE] at h3
    replace h1 : ∀ k, K1 ≤ k → journal_Read.f k (B E) (⟨#[]⟩ : ByteArray) = some l := h1
    replace h2 : ∀ k, K2 ≤ k → ancepsref56_Same.f k l l = some true := h2
    replace h3 : ∀ k, K3 ≤ k → ancepslaw56_JournalKeeps.l1 k l (n : Int) 0 0 (B (E.take n)) (⟨#[]⟩ : ByteArray) = some true := h3
    refine ⟨K1 + K2 + K3 + 3, fun k hk => ?_⟩
    obtain ⟨k, rfl⟩ : ∃ m, k = m + 2 := ⟨k - 2, by omega⟩
    simp only [ancepslaw56_JournalKeeps.l0]
    rw [if_neg (by omega), c1, Option.bind_some, hw.out, if_neg (by omega), hwa.out, ht, c2]
    simp only [Option.bind_some, journal_Sync.f]
    rw [if_pos (by rw [size_mt, hbs]; omega)]
    simp only [Option.bind_some]
    rw [B_nil_app, c3]
    simp only [Option.bind_some, if_true]
    rw [h1 (k + 1) (by omega)]
    simp only [Option.bind_some]
    rw [h2 (k + 1) (by omega)]
    simp only [Option.bind_some, if_true]
    simp only [ancepslaw56_JournalKeeps.j2]
    rw [if_neg (by decide), h3 k (by omega)]
  | succ d ih =>
    intro i hi hok
    have hil : i < l.length := by omega
    have hrd := rdOf_get l i hil
    have hle := enc_le _ hok
    rw [List.length_map, List.length_take] at hle
    by_cases hp : l[i].size ≤ 400
    · obtain ⟨K1, h1⟩ := append_ev (⟨#[]⟩ : ByteArray) (B (enc ((l.take i).map L))) l[i] (by rw [size_mt]; omega) (by rw [B_size]; omega) (by omega)
      rw [if_pos hp, if_neg (by rw [size_mt, B_size]; omega)] at h1
      have hok' : Ok ((l.take (i + 1)).map L) := by
        rw [take_snoc l i hil, List.map_append]
        exact hok.append (fun q hq => by simp at hq; rw [hq, L_len]; exact hp)
      obtain ⟨K2, h2⟩ := ih (i + 1) (by omega) hok'
      have hs : B (enc ((l.take i).map L)) ++ B (frame (L l[i])) = B (enc ((l.take (i + 1)).map L)) := by
        rw [take_snoc l i hil, List.map_append, enc_append, B_app]; simp [enc]
      rw [hs] at h1
      replace h1 : ∀ k, K1 ≤ k → journal_Append.f k (⟨#[]⟩ : ByteArray) (B (enc ((l.take i).map L))) l[i] = some ((⟨#[]⟩ : ByteArray), B (enc ((l.take (i + 1)).map L)), 0) := h1
      replace h2 : ∀ k, K2 ≤ k → ancepslaw56_JournalKeeps.l0 k l a l (l.length : Int) ((i + 1 : Nat) : Int) (⟨#[]⟩ : ByteArray) (B (enc ((l.take (i + 1)).map L))) = some true := h2
      refine ⟨K1 + K2 + 1, fun k hk => ?_⟩
      obtain ⟨k, rfl⟩ : ∃ m, k = m + 1 := ⟨k - 1, by omega⟩
      have e1 := Aside0.mk (wsucc i (by omega))
      simp only [ancepslaw56_JournalKeeps.l0]
      rw [if_pos (by omega), if_pos (by omega), if_pos (by omega), hrd, h1 k (by omega)]
      simp only [Option.bind_some, if_true]
      rw [e1.out, h2 k (by omega)]
    · obtain ⟨K1, h1⟩ : Ev (fun k => journal_Append.f k (⟨#[]⟩ : ByteArray) (B (enc ((l.take i).map L))) l[i]) (B [], B [], 3) := by
        refine ⟨0, fun k _ => ?_⟩
        simp only [journal_Append.f, journal_Frame.f]
        rw [if_pos (by omega)]
        simp only [Option.bind_some]
        rw [if_neg (by decide)]; rfl
      replace h1 : ∀ k, K1 ≤ k → journal_Append.f k (⟨#[]⟩ : ByteArray) (B (enc ((l.take i).map L))) l[i] = some (B [], B [], 3) := h1
      refine ⟨K1 + 1, fun k hk => ?_⟩
      obtain ⟨k, rfl⟩ : ∃ m, k = m + 1 := ⟨k - 1, by omega⟩
      simp only [ancepslaw56_JournalKeeps.l0]
      rw [if_pos (by omega), if_pos (by omega), if_pos (by omega), hrd, h1 k (by omega)]
      simp only [Option.bind_some]
      rw [if_neg (by decide), decide_eq_true (by omega)]

theorem law_keeps (l : List ByteArray) (a : Int) (ha : 0 ≤ a ∧ a ≤ 65535) : ∃ k, ancepslaw56_JournalKeeps.f k l a = some true := by
  obtain ⟨K0, h0⟩ := awake_ev
  replace h0 : ∀ k, K0 ≤ k → ancepslaw56_awake.f k = some true := h0
  by_cases hg : l.length ≤ 20
  · obtain ⟨K1, h1⟩ := keeps_l0 l hg a ha l.length 0 (by omega) (fun q hq => by simp at hq)
    replace h1 : ∀ k, K1 ≤ k → ancepslaw56_JournalKeeps.l0 k l a l (l.length : Int) 0 (⟨#[]⟩ : ByteArray) (⟨#[]⟩ : ByteArray) = some true := h1
    refine ⟨K0 + K1 + 1, ?_⟩
    simp only [ancepslaw56_JournalKeeps.f]
    rw [h0 _ (by omega)]
    simp only [Option.bind_some, if_true]
    rw [decide_eq_false (by omega)]
    simp only [ancepslaw56_JournalKeeps.j0, journal_New.f]
    rw [if_neg (by decide)]
    simp only [Option.bind_some]
    rw [h1 _ (by omega)]
  · refine ⟨K0 + 1, ?_⟩
    simp only [ancepslaw56_JournalKeeps.f]
    rw [h0 _ (by omega)]
    simp only [Option.bind_some, if_true]
    rw [decide_eq_true (by omega)]
    simp only [ancepslaw56_JournalKeeps.j0]
    rw [if_pos trivial, h0 _ (by omega)]
    rfl
end Go.Proofs.Ytoepdplglablcaa.JP
namespace Go.Proofs.Ytoepdplglablcaa.Pure
open Go.Proofs.Ytoepdplglablcaa.J
theorem JournalKeeps (l : List ByteArray) (a : Int) (ha : (Lit.int .u16 a).wf = true) : ∃ k, ancepslaw56_JournalKeeps.f k l a = some true := JP.law_keeps l a (by simp only [Lit.wf, decide_eq_true_eq, Bool.and_eq_true] at ha; exact ha)
end Go.Proofs.Ytoepdplglablcaa.Pure
