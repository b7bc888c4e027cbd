-- Written by wip/oprint (this session's own program): the machine's side of a proof. Not trusted: Lean checks it.
import Derived.Test.YtoepdplglablcaaJx0
import Derived.Test.YtoepdplglablcaaJx2
import Derived.Test.YtoepdplglablcaaJx3
import Derived.Test.YtoepdplglablcaaJx5
namespace Go.Proofs.Ytoepdplglablcaa.J
open Go.RowKit Go.Proofs.YtoepdplglablcaaW.PrintWords Go.Proofs.YtoepdplglablcaaW.PrintLast Go.Proofs.YtoepdplglablcaaW.PrintMore
attribute [local go_sem] max2_int min2_int max_two min_two max_three min_three max_four min_four   -- for this text's walks alone
set_option linter.unusedVariables false
set_option linter.unusedSimpArgs false

/-! ### ancepslaw56_JournalKeeps: function 8 -/
mutual
def ancepslaw56_JournalKeeps.j0 : Nat → List ByteArray → Int → Bool → Option (Bool)
  | 0, _, _, _ => none
  | k + 1, x0, x1, x25 => if x25 = true then ((ancepslaw56_awake.f k).bind fun t286 => (some t286)) else ((journal_New.f).bind fun bt287 => (ancepslaw56_JournalKeeps.l0 k x0 x1 x0 (x0.length : Int) 0 bt287.1 bt287.2))
def ancepslaw56_JournalKeeps.l0 : Nat → List ByteArray → Int → List ByteArray → Int → Int → ByteArray → ByteArray → Option (Bool)
  | 0, _, _, _, _, _, _, _ => none
  | k + 1, x0, x1, x28, x29, x30, x290000, x290001 => if x30 < x29 then (if 0 ≤ x30 then (if x30 < (x28.length : Int) then ((journal_Append.f k x290000 x290001 (rdOf ByteArray.empty x28 x30)).bind fun bt291 => (if bt291.2.2 = 0 then (ancepslaw56_JournalKeeps.l0 k x0 x1 x28 x29 (wrap64 (x30 + 1)) bt291.1 bt291.2.1) else (some (decide (((rdOf ByteArray.empty x28 x30).size : Int) > 400))))) else (none)) else (none)) else ((journal_Crash.f x290000 x290001 (x290001.size : Int) (-1)).bind fun bt295 => (if (wrap64 ((x290001.size : Int) + 1)) = 0 then (none) else ((journal_Crash.f x290000 x290001 (Int.tmod (wrap64 (x1)) (wrap64 ((x290001.size : Int) + 1))) (-1)).bind fun bt299 => ((journal_Sync.f x290000 x290001).bind fun bt303 => ((journal_Crash.f bt303.1 bt303.2 0 (-1)).bind fun bt305 => (if bt295.2.2 = 0 then (if bt299.2.2 = 0 then (if bt305.2.2 = 0 then ((journal_Read.f k bt295.1 bt295.2.1).bind fun t309 => ((ancepsref56_Same.f k t309 x0).bind fun t312 => (if t312 = true then ((journal_Read.f k bt305.1 bt305.2.1).bind fun t313 => ((ancepsref56_Same.f k t313 x0).bind fun t316 => (ancepslaw56_JournalKeeps.j2 k x0 (Int.tmod (wrap64 (x1)) (wrap64 ((x290001.size : Int) + 1))) (!t316) bt299.1 bt299.2.1))) else (ancepslaw56_JournalKeeps.j2 k x0 (Int.tmod (wrap64 (x1)) (wrap64 ((x290001.size : Int) + 1))) true bt299.1 bt299.2.1)))) else (ancepslaw56_JournalKeeps.j2 k x0 (Int.tmod (wrap64 (x1)) (wrap64 ((x290001.size : Int) + 1))) true bt299.1 bt299.2.1)) else (ancepslaw56_JournalKeeps.j2 k x0 (Int.tmod (wrap64 (x1)) (wrap64 ((x290001.size : Int) + 1))) true bt299.1 bt299.2.1)) else (ancepslaw56_JournalKeeps.j2 k x0 (Int.tmod (wrap64 (x1)) (wrap64 ((x290001.size : Int) + 1))) true bt299.1 bt299.2.1)))))))
def ancepslaw56_JournalKeeps.j2 : Nat → List ByteArray → Int → Bool → ByteArray → ByteArray → Option (Bool)
  | 0, _, _, _, _, _ => none
  | k + 1, x0, x12, x97, x303000, x303001 => if x97 = true then (some false) else (ancepslaw56_JournalKeeps.l1 k x0 x12 0 0 x303000 x303001)
def ancepslaw56_JournalKeeps.l1 : Nat → List ByteArray → Int → Int → Int → ByteArray → ByteArray → Option (Bool)
  | 0, _, _, _, _, _, _ => none
  | k + 1, x0, x12, x17, x18, x303000, x303001 => if x17 < (x0.length : Int) then (if 0 ≤ x17 then (if (wrap64 ((wrap64 (x18 + 8)) + ((rdOf ByteArray.empty x0 x17).size : Int))) ≤ x12 then (ancepslaw56_JournalKeeps.l1 k x0 x12 (wrap64 (x17 + 1)) (wrap64 (x18 + (wrap64 (8 + ((rdOf ByteArray.empty x0 x17).size : Int))))) x303000 x303001) else ((journal_Read.f k x303000 x303001).bind fun t319 => (if x17 ≤ (x0.length : Int) then ((ancepsref56_Same.f k t319 (x0.take (x17 : Int).toNat)).bind fun t323 => (some t323)) else (none)))) else (none)) else ((journal_Read.f k x303000 x303001).bind fun t324 => (if 0 ≤ x17 then (if x17 ≤ (x0.length : Int) then ((ancepsref56_Same.f k t324 (x0.take (x17 : Int).toNat)).bind fun t328 => (some t328)) else (none)) else (none)))
end
def ancepslaw56_JournalKeeps.f (k : Nat) (l0 : List ByteArray) (a1 : Int) : Option (Bool) := (ancepslaw56_awake.f k).bind fun t285 => (if t285 = true then (ancepslaw56_JournalKeeps.j0 k l0 a1 (decide ((l0.length : Int) > 20))) else (ancepslaw56_JournalKeeps.j0 k l0 a1 true))
theorem ancepslaw56_JournalKeeps.mono_l : ∀ k, (∀ y0 y1 y2, LeO (ancepslaw56_JournalKeeps.j0 k y0 y1 y2) (ancepslaw56_JournalKeeps.j0 (k + 1) y0 y1 y2)) ∧ (∀ y0 y1 y2 y3 y4 y5 y6, LeO (ancepslaw56_JournalKeeps.l0 k y0 y1 y2 y3 y4 y5 y6) (ancepslaw56_JournalKeeps.l0 (k + 1) y0 y1 y2 y3 y4 y5 y6)) ∧ (∀ y0 y1 y2 y3 y4, LeO (ancepslaw56_JournalKeeps.j2 k y0 y1 y2 y3 y4) (ancepslaw56_JournalKeeps.j2 (k + 1) y0 y1 y2 y3 y4)) ∧ (∀ y0 y1 y2 y3 y4 y5, LeO (ancepslaw56_JournalKeeps.l1 k y0 y1 y2 y3 y4 y5) (ancepslaw56_JournalKeeps.l1 (k + 1) y0 y1 y2 y3 y4 y5))
  | 0 => ⟨fun _ _ _ r h => by simp [ancepslaw56_JournalKeeps.j0] at h, fun _ _ _ _ _ _ _ r h => by simp [ancepslaw56_JournalKeeps.l0] at h, fun _ _ _ _ _ r h => by simp [ancepslaw56_JournalKeeps.j2] at h, fun _ _ _ _ _ _ r h => by simp [ancepslaw56_JournalKeeps.l1] at h⟩
  | k + 1 => by
    obtain ⟨ih0, ih1, ih2, ih3⟩ := ancepslaw56_JournalKeeps.mono_l k
    refine ⟨?_, ?_, ?_, ?_⟩
    · intro y0 y1 y2
      unfold ancepslaw56_JournalKeeps.j0
      repeat' first
      | (with_reducible exact ih0 _ _ _)
      | (with_reducible exact ih1 _ _ _ _ _ _ _)
      | (with_reducible exact ih2 _ _ _ _ _)
      | (with_reducible exact ih3 _ _ _ _ _ _)
      | (with_reducible exact ancepslaw56_awake.mono _)
      | (with_reducible exact ancepsref56_Same.mono _ _ _)
      | (with_reducible exact journal_Append.mono _ _ _ _)
      | (with_reducible exact journal_Read.mono _ _ _)
      | (with_reducible exact LeO.refl _)
      | (with_reducible exact LeO.none _)
      | (with_reducible refine LeO.ite ?_ ?_)
      | (with_reducible refine LeO.bind ?_ (fun _ => ?_))
      | exact ih0 _ _ _
      | exact ih1 _ _ _ _ _ _ _
      | exact ih2 _ _ _ _ _
      | exact ih3 _ _ _ _ _ _
      | exact ancepslaw56_awake.mono _
      | exact ancepsref56_Same.mono _ _ _
      | exact journal_Append.mono _ _ _ _
      | exact journal_Read.mono _ _ _
      | exact LeO.none _
      | refine LeO.ite ?_ ?_
      | refine LeO.bind ?_ (fun _ => ?_)
    · intro y0 y1 y2 y3 y4 y5 y6
      unfold ancepslaw56_JournalKeeps.l0
      repeat' first
      | (with_reducible exact ih0 _ _ _)
      | (with_reducible exact ih1 _ _ _ _ _ _ _)
      | (with_reducible exact ih2 _ _ _ _ _)
      | (with_reducible exact ih3 _ _ _ _ _ _)
      | (with_reducible exact ancepslaw56_awake.mono _)
      | (with_reducible exact ancepsref56_Same.mono _ _ _)
      | (with_reducible exact journal_Append.mono _ _ _ _)
      | (with_reducible exact journal_Read.mono _ _ _)
      | (with_reducible exact LeO.refl _)
      | (with_reducible exact LeO.none _)
      | (with_reducible refine LeO.ite ?_ ?_)
      | (with_reducible refine LeO.bind ?_ (fun _ => ?_))
      | exact ih0 _ _ _
      | exact ih1 _ _ _ _ _ _ _
      | exact ih2 _ _ _ _ _
      | exact ih3 _ _ _ _ _ _
      | exact ancepslaw56_awake.mono _
      | exact ancepsref56_Same.mono _ _ _
      | exact journal_Append.mono _ _ _ _
      | exact journal_Read.mono _ _ _
      | exact LeO.none _
      | refine LeO.ite ?_ ?_
      | refine LeO.bind ?_ (fun _ => ?_)
    · intro y0 y1 y2 y3 y4
      unfold ancepslaw56_JournalKeeps.j2
      repeat' first
      | (with_reducible exact ih0 _ _ _)
      | (with_reducible exact ih1 _ _ _ _ _ _ _)
      | (with_reducible exact ih2 _ _ _ _ _)
      | (with_reducible exact ih3 _ _ _ _ _ _)
      | (with_reducible exact ancepslaw56_awake.mono _)
      | (with_reducible exact ancepsref56_Same.mono _ _ _)
      | (with_reducible exact journal_Append.mono _ _ _ _)
      | (with_reducible exact journal_Read.mono _ _ _)
      | (with_reducible exact LeO.refl _)
      | (with_reducible exact LeO.none _)
      | (with_reducible refine LeO.ite ?_ ?_)
      | (with_reducible refine LeO.bind ?_ (fun _ => ?_))
      | exact ih0 _ _ _
      | exact ih1 _ _ _ _ _ _ _
      | exact ih2 _ _ _ _ _
      | exact ih3 _ _ _ _ _ _
      | exact ancepslaw56_awake.mono _
      | exact ancepsref56_Same.mono _ _ _
      | exact journal_Append.mono _ _ _ _
      | exact journal_Read.mono _ _ _
      | exact LeO.none _
      | refine LeO.ite ?_ ?_
      | refine LeO.bind ?_ (fun _ => ?_)
    · intro y0 y1 y2 y3 y4 y5
      unfold ancepslaw56_JournalKeeps.l1
      repeat' first
      | (with_reducible exact ih0 _ _ _)
      | (with_reducible exact ih1 _ _ _ _ _ _ _)
      | (with_reducible exact ih2 _ _ _ _ _)
      | (with_reducible exact ih3 _ _ _ _ _ _)
      | (with_reducible exact ancepslaw56_awake.mono _)
      | (with_reducible exact ancepsref56_Same.mono _ _ _)
      | (with_reducible exact journal_Append.mono _ _ _ _)
      | (with_reducible exact journal_Read.mono _ _ _)
      | (with_reducible exact LeO.refl _)
      | (with_reducible exact LeO.none _)
      | (with_reducible refine LeO.ite ?_ ?_)
      | (with_reducible refine LeO.bind ?_ (fun _ => ?_))
      | exact ih0 _ _ _
      | exact ih1 _ _ _ _ _ _ _
      | exact ih2 _ _ _ _ _
      | exact ih3 _ _ _ _ _ _
      | exact ancepslaw56_awake.mono _
      | exact ancepsref56_Same.mono _ _ _
      | exact journal_Append.mono _ _ _ _
      | exact journal_Read.mono _ _ _
      | exact LeO.none _
      | refine LeO.ite ?_ ?_
      | refine LeO.bind ?_ (fun _ => ?_)
theorem ancepslaw56_JournalKeeps.mono : ∀ a0 a1 k, LeO (ancepslaw56_JournalKeeps.f k a0 a1) (ancepslaw56_JournalKeeps.f (k + 1) a0 a1) := by
  intro a0 a1 k
  obtain ⟨ih0, ih1, ih2, ih3⟩ := ancepslaw56_JournalKeeps.mono_l k
  unfold ancepslaw56_JournalKeeps.f
  repeat' first
      | (with_reducible exact ih0 _ _ _)
      | (with_reducible exact ih1 _ _ _ _ _ _ _)
      | (with_reducible exact ih2 _ _ _ _ _)
      | (with_reducible exact ih3 _ _ _ _ _ _)
      | (with_reducible exact ancepslaw56_awake.mono _)
      | (with_reducible exact ancepsref56_Same.mono _ _ _)
      | (with_reducible exact journal_Append.mono _ _ _ _)
      | (with_reducible exact journal_Read.mono _ _ _)
      | (with_reducible exact LeO.refl _)
      | (with_reducible exact LeO.none _)
      | (with_reducible refine LeO.ite ?_ ?_)
      | (with_reducible refine LeO.bind ?_ (fun _ => ?_))
      | exact ih0 _ _ _
      | exact ih1 _ _ _ _ _ _ _
      | exact ih2 _ _ _ _ _
      | exact ih3 _ _ _ _ _ _
      | exact ancepslaw56_awake.mono _
      | exact ancepsref56_Same.mono _ _ _
      | exact journal_Append.mono _ _ _ _
      | exact journal_Read.mono _ _ _
      | exact LeO.none _
      | refine LeO.ite ?_ ?_
      | refine LeO.bind ?_ (fun _ => ?_)
set_option maxHeartbeats 8000000 in
set_option maxRecDepth 100000 in
theorem ancepslaw56_JournalKeeps.calls (k : Nat) (A0 : Option Addr) (c0 : Nat) (l0 : List ByteArray) (a1 : Int) (r : Bool) (w : World) (hr0 : Kd.C Kd.string w A0 l0.length l0) (hc0 : l0.length ≤ c0) (h : ancepslaw56_JournalKeeps.f k l0 a1 = some r) :
    Calls Try.prog 8 #[.slice A0 l0.length c0, .int .u16 a1] w fun e w' => e = .returned (.bool r) ∧ Below w.heap.size w w' := by
  have hu33 := Try.underlying33
  have HR0 := Aside0.mk hr0
  have HC0 := Aside0.mk hc0
  clear hr0 hc0
  have HB := Aside0.mk (Below.refl w.heap.size w)
  have H : ((ancepslaw56_awake.f k).bind fun t285 => (if t285 = true then (ancepslaw56_JournalKeeps.j0 k l0 a1 (decide ((l0.length : Int) > 20))) else (ancepslaw56_JournalKeeps.j0 k l0 a1 true))) = some r := h
  clear h
  have HC3 := Aside0.mk H
  clear H
  go_enter Try.func8, Try.ntmps8
  go_upto_region 1 with (fail)
  go_cut [25] (fun v25 wc => ∃ (kq : Nat) (x25_2 : Bool), v25 = .bool x25_2 ∧ Aside0 (ancepslaw56_JournalKeeps.j0 kq l0 a1 x25_2 = some r) ∧ Aside0 (kq ≤ k) ∧ Aside0 (Below w.heap.size w wc))
  case first =>
    have H := HC3.out
    clear HC3
    replace H := Option.bind_eq_some_iff.mp H
    obtain ⟨t285, A40, H⟩ := H
    replace H : (if t285 = true then (ancepslaw56_JournalKeeps.j0 k l0 a1 (decide ((l0.length : Int) > 20))) else (ancepslaw56_JournalKeeps.j0 k l0 a1 true)) = some r := H
    have A4 := Aside0.mk A40
    clear A40
    by_cases c5 : t285 = true
    · subst c5
      have H1 : (ancepslaw56_JournalKeeps.j0 k l0 a1 (decide ((l0.length : Int) > 20))) = some r := by rw [if_pos rfl] at H; exact H
      clear H
      have H := H1
      clear H1
      have H' := Aside0.mk H
      clear H
      go_wp2_with (first | ((with_reducible refine gate_callee (f := 11) rfl ?_); refine goesL_ (some 19) rfl rfl Try.func11 (by kernel_rfl) rfl #[] rfl (by (try simp only [List.map_toArray, List.map_cons, List.map_nil]); first | done | rfl | (simp only [List.length_drop, List.length_take]; rfl) | (simp only [decide_eq_true_eq, decide_eq_false_iff_not] at *; congr <;> (first | rfl | (refine (congrArg (Value.int .i64) ?_ : Value.int .i64 _ = Value.int .i64 _); unfold wrap64; omega) | fail)) | fail) ?_; (with_reducible refine (ancepslaw56_awake.calls k  true _ A4.out).mono ?_); rintro e w6 ⟨rfl, hb⟩; refine ⟨_, rfl, ?_⟩; have n0_ := Aside0.mk (below_step (by repeat (first | (with_reducible first | exact HB.out | apply below_alloc | apply pw_below_drewN | apply below_drew1) | exact HB.out)) hb); clear HB; have HB := n0_; clear n0_; (try clear hb); (try clear hb2); (try clear hk); (try clear hi)))
      go_meet
      case rel => exact ⟨_, (decide ((l0.length : Int) > 20)), (by first | rfl | (simp; done) | (simp [*]; done)), H', ⟨by first | omega | exact Nat.le_refl _⟩, ⟨by repeat (first | (with_reducible first | exact HB.out | apply below_alloc | apply pw_below_drewN | apply below_drew1) | exact HB.out)⟩⟩
    · replace c5 := Bool.eq_false_iff.mpr c5
      subst c5
      have H1 : (ancepslaw56_JournalKeeps.j0 k l0 a1 true) = some r := by rw [if_neg (show ¬ (false = true) by decide)] at H; exact H
      clear H
      have H := H1
      clear H1
      have H' := Aside0.mk H
      clear H
      go_wp2_with (first | ((with_reducible refine gate_callee (f := 11) rfl ?_); refine goesL_ (some 19) rfl rfl Try.func11 (by kernel_rfl) rfl #[] rfl (by (try simp only [List.map_toArray, List.map_cons, List.map_nil]); first | done | rfl | (simp only [List.length_drop, List.length_take]; rfl) | (simp only [decide_eq_true_eq, decide_eq_false_iff_not] at *; congr <;> (first | rfl | (refine (congrArg (Value.int .i64) ?_ : Value.int .i64 _ = Value.int .i64 _); unfold wrap64; omega) | fail)) | fail) ?_; (with_reducible refine (ancepslaw56_awake.calls k  false _ A4.out).mono ?_); rintro e w7 ⟨rfl, hb⟩; refine ⟨_, rfl, ?_⟩; have n0_ := Aside0.mk (below_step (by repeat (first | (with_reducible first | exact HB.out | apply below_alloc | apply pw_below_drewN | apply below_drew1) | exact HB.out)) hb); clear HB; have HB := n0_; clear n0_; (try clear hb); (try clear hb2); (try clear hk); (try clear hi)))
      go_meet
      case rel => exact ⟨_, (true), (by first | rfl | (simp; done) | (simp [*]; done)), H', ⟨by first | omega | exact Nat.le_refl _⟩, ⟨by repeat (first | (with_reducible first | exact HB.out | apply below_alloc | apply pw_below_drewN | apply below_drew1) | exact HB.out)⟩⟩
  case rest =>
    clear HC3
    try clear c1
    try clear p2
    try clear c5
    try clear p6
    obtain ⟨kq, x25_2, rfl, HA, HJ2, HB⟩ := hcut
    cases kq with
    | zero => exact absurd HA.out (by simp [ancepslaw56_JournalKeeps.j0])
    | succ kj2 =>
      have H := HA.out
      clear HA
      simp only [ancepslaw56_JournalKeeps.j0] at H
      by_cases c8 : x25_2 = true
      · subst c8
        have H1 : ((ancepslaw56_awake.f kj2).bind fun t286 => (some t286)) = some r := by rw [if_pos rfl] at H; exact H
        clear H
        have H := H1
        clear H1
        replace H := Option.bind_eq_some_iff.mp H
        obtain ⟨t286, A90, H⟩ := H
        replace H : (some t286) = some r := H
        have A9 := Aside0.mk A90
        clear A90
        obtain rfl := Option.some.inj H
        go_wp2_with (first | ((with_reducible refine gate_callee (f := 11) rfl ?_); refine goesL_ (some 26) rfl rfl Try.func11 (by kernel_rfl) rfl #[] rfl (by (try simp only [List.map_toArray, List.map_cons, List.map_nil]); first | done | rfl | (simp only [List.length_drop, List.length_take]; rfl) | (simp only [decide_eq_true_eq, decide_eq_false_iff_not] at *; congr <;> (first | rfl | (refine (congrArg (Value.int .i64) ?_ : Value.int .i64 _ = Value.int .i64 _); unfold wrap64; omega) | fail)) | fail) ?_; (with_reducible refine (ancepslaw56_awake.calls kj2  t286 _ A9.out).mono ?_); rintro e w10 ⟨rfl, hb⟩; refine ⟨_, rfl, ?_⟩; have n0_ := Aside0.mk (below_step (by repeat (first | (with_reducible first | exact HB.out | apply below_alloc | apply pw_below_drewN | apply below_drew1) | exact HB.out)) hb); clear HB; have HB := n0_; clear n0_; (try clear hb); (try clear hb2); (try clear hk); (try clear hi)))
        go_ret
        exact ⟨by first | rfl | (simp [errW_none, errW_some] <;> rfl) | (simp [*, errW_none, errW_some] <;> rfl), by repeat (first | (with_reducible first | exact HB.out | apply below_alloc | apply pw_below_drewN | apply below_drew1) | exact HB.out)⟩
      · replace c8 := Bool.eq_false_iff.mpr c8
        subst c8
        have H1 : ((journal_New.f).bind fun bt287 => (ancepslaw56_JournalKeeps.l0 kj2 l0 a1 l0 (l0.length : Int) 0 bt287.1 bt287.2)) = some r := by rw [if_neg (show ¬ (false = true) by decide)] at H; exact H
        clear H
        have H := H1
        clear H1
        replace H := Option.bind_eq_some_iff.mp H
        obtain ⟨⟨t287, t288⟩, A110, H⟩ := H
        replace H : (ancepslaw56_JournalKeeps.l0 kj2 l0 a1 l0 (l0.length : Int) 0 t287 t288) = some r := H
        have A11 := Aside0.mk A110
        clear A110
        have H' := Aside0.mk H
        clear H
        go_wp2_with (first | ((with_reducible refine gate_callee (f := 30) rfl ?_); refine goesL_ (some 27) rfl rfl Try.func30 (by kernel_rfl) rfl #[] rfl (by (try simp only [List.map_toArray, List.map_cons, List.map_nil]); first | done | rfl | (simp only [List.length_drop, List.length_take]; rfl) | (simp only [decide_eq_true_eq, decide_eq_false_iff_not] at *; congr <;> (first | rfl | (refine (congrArg (Value.int .i64) ?_ : Value.int .i64 _ = Value.int .i64 _); unfold wrap64; omega) | fail)) | fail) ?_; (with_reducible refine (journal_New.calls  t287 t288 _ A11.out).mono ?_); rintro e w12 ⟨rfl, hb⟩; refine ⟨_, rfl, ?_⟩; have n0_ := Aside0.mk (below_step (by repeat (first | (with_reducible first | exact HB.out | apply below_alloc | apply pw_below_drewN | apply below_drew1) | exact HB.out)) hb); clear HB; have HB := n0_; clear n0_; (try clear hb); (try clear hb2); (try clear hk); (try clear hi)) | ((with_reducible refine gate_dst (N := 5) rfl ?_); (try (refine gate_guard (by rfl) ?_; dsimp only)); refine box_event ?hg (N := 5) ?hd (cs := #[.string (⟨#[]⟩ : ByteArray), .string (⟨#[]⟩ : ByteArray)]) (t := 33) ?hr ?_; (case hd => rfl); (case hg => rfl); (case hr => first | (go_simp; done) | (go_simp; rfl)); intro gb289 hg w13 hbox hb; have n0_ := Aside0.mk (below_step (by repeat (first | (with_reducible first | exact HB.out | apply below_alloc | apply pw_below_drewN | apply below_drew1) | exact HB.out)) hb); have n1_ := Aside0.mk (hbox); have n2_ := Aside0.mk ((by rw [hg]; exact (below_size (by repeat (first | (with_reducible first | exact HB.out | apply below_alloc | apply pw_below_drewN | apply below_drew1) | exact HB.out))) : w.heap.size ≤ gb289)); have n3_ := Aside0.mk ((by rw [hg]; exact (below_size (by repeat (first | (with_reducible first | exact HB.out | apply below_alloc | apply pw_below_drewN | apply below_drew1) | exact HB.out))) : w.heap.size ≤ gb289)); clear HB; have HB := n0_; have BK289 := n1_; have GW289 := n2_; have GE289 := n3_; clear n0_ n1_ n2_ n3_; clear hb hbox hg; have hcz14_0 : w13.cell? ⟨gb289, 0, none⟩ = some (.string (⟨#[]⟩ : ByteArray)) := (blk_cell BK289.out 0).trans rfl; have hcz14_1 : w13.cell? ⟨gb289, 1, none⟩ = some (.string (⟨#[]⟩ : ByteArray)) := (blk_cell BK289.out 1).trans rfl; have hfz14_0 := blk_frozen BK289.out 0; have hfz14_1 := blk_frozen BK289.out 1))
        go_loopg [30] kj2 (fun kq v30 w' => ∃ (x30_2 : Int) (x290000_2 : ByteArray) (x290001_2 : ByteArray), v30 = .int .i64 x30_2 ∧ Aside0 (ancepslaw56_JournalKeeps.l0 kq l0 a1 l0 (l0.length : Int) x30_2 x290000_2 x290001_2 = some r) ∧ Aside0 (kq ≤ kj2) ∧ Aside0 (w'.heap[gb289]? = some (.cells #[.string x290000_2, .string x290001_2] 33 (0, 0))) ∧ Aside0 (Below w.heap.size w w'))
        case atStart => exact ⟨(0), (t287), (t288), (by first | rfl | (simp; done) | (simp [*]; done)), H', ⟨Nat.le_refl _⟩, ⟨by (with_reducible repeat (first | refine blk_drewN ?_ _ | refine blk_drew ?_ | refine blk_alloc ?_ _)); refine blk_put (cs := #[.string t287, .string (⟨#[]⟩ : ByteArray)]) ?_ 1 _ rfl; (with_reducible repeat (first | refine blk_drewN ?_ _ | refine blk_drew ?_ | refine blk_alloc ?_ _)); refine blk_put (cs := #[.string (⟨#[]⟩ : ByteArray), .string (⟨#[]⟩ : ByteArray)]) ?_ 0 _ rfl; (with_reducible repeat (first | refine blk_drewN ?_ _ | refine blk_drew ?_ | refine blk_alloc ?_ _)); exact BK289.out⟩, ⟨by repeat (first | (with_reducible first | exact HB.out | apply below_alloc | apply pw_below_drewN | apply below_drew1 | refine below_set ?_ GE289.out) | exact HB.out)⟩⟩
        case round =>
          clear H'
          try clear c1
          try clear p2
          try clear c3
          try clear c5
          try clear p6
          try clear c8
          try clear c11
          try clear hcz14_0
          try clear hcz14_1
          try clear hfz14_0
          try clear hfz14_1
          try clear p2
          try clear p6
          obtain ⟨x30_2, x290000_2, x290001_2, rfl, HA, HK2, BK289, HB⟩ := hrel
          cases gk with
          | zero => exact absurd HA.out (by simp [ancepslaw56_JournalKeeps.l0])
          | succ k2 =>
            have H := HA.out
            clear HA
            simp only [ancepslaw56_JournalKeeps.l0] at H
            by_cases c15 : x30_2 < (l0.length : Int)
            · rw [if_pos c15] at H
              have c15b0 : decide (x30_2 < (l0.length : Int)) = true := decide_eq_true c15
              clear c15
              by_cases c16 : 0 ≤ x30_2
              · rw [if_pos c16] at H
                have c16b0 : decide (0 ≤ x30_2) = true := decide_eq_true c16
                clear c16
                by_cases c17 : x30_2 < (l0.length : Int)
                · rw [if_pos c17] at H
                  have c17b0 : decide (x30_2 < (l0.length : Int)) = true := decide_eq_true c17
                  clear c17
                  replace H := Option.bind_eq_some_iff.mp H
                  obtain ⟨⟨t291, t292, t293⟩, A180, H⟩ := H
                  replace H : (if t293 = 0 then (ancepslaw56_JournalKeeps.l0 k2 l0 a1 l0 (l0.length : Int) (wrap64 (x30_2 + 1)) t291 t292) else (some (decide (((rdOf ByteArray.empty l0 x30_2).size : Int) > 400)))) = some r := H
                  have A18 := Aside0.mk A180
                  clear A180
                  by_cases c19 : t293 = 0
                  · rw [if_pos c19] at H
                    have c19b0 : (t293 == 0) = true := beq_iff_eq.mpr c19
                    have c19b1 : (t293 != 0) = false := bne_eq_false_iff_eq.mpr c19
                    clear c19
                    have H' := Aside0.mk H
                    clear H
                    have p290 : 0 ≤ (x30_2 : Int) := of_decide_eq_true (by first | (with_reducible assumption) | assumption)
                    have q290 : x30_2 < (l0.length : Int) := of_decide_eq_true (by first | (with_reducible assumption) | assumption)
                    obtain ⟨ad290, e290, hx290_0⟩ := Kd.at_string HR0.out x30_2 p290 q290
                    cases e290
                    replace hx290_0 := (HB.out.cell (World.block_lt_of_cell? w _ hx290_0)).trans hx290_0
                    replace p290 := eq_true p290
                    replace q290 := eq_true q290
                    have hcz20_0 : wr.cell? ⟨gb289, 0, none⟩ = some (.string x290000_2) := (blk_cell BK289.out 0).trans rfl
                    have hcz20_1 : wr.cell? ⟨gb289, 1, none⟩ = some (.string x290001_2) := (blk_cell BK289.out 1).trans rfl
                    have hfz20_0 := blk_frozen BK289.out 0
                    have hfz20_1 := blk_frozen BK289.out 1
                    go_wp2_with (first | ((with_reducible refine gate_callee (f := 21) rfl ?_); refine goesL_ (some 37) rfl rfl Try.func21 (by kernel_rfl) rfl #[.agg #[.string x290000_2, .string x290001_2], .string (rdOf ByteArray.empty l0 x30_2)] rfl (by (try simp only [List.map_toArray, List.map_cons, List.map_nil]); first | done | rfl | (simp only [List.length_drop, List.length_take]; rfl) | (simp only [decide_eq_true_eq, decide_eq_false_iff_not] at *; congr <;> (first | rfl | (refine (congrArg (Value.int .i64) ?_ : Value.int .i64 _ = Value.int .i64 _); unfold wrap64; omega) | fail)) | fail) ?_; (with_reducible refine (journal_Append.calls k2 x290000_2 x290001_2 (rdOf ByteArray.empty l0 x30_2) t291 t292 t293 _ A18.out).mono ?_); rintro e w21 ⟨rfl, hb⟩; refine ⟨_, rfl, ?_⟩; have n0_ := Aside0.mk (blk_below (g := gb289) (o := .cells #[.string x290000_2, .string x290001_2] 33 (0, 0)) (by (with_reducible repeat (first | refine blk_drewN ?_ _ | refine blk_drew ?_ | refine blk_alloc ?_ _)); exact BK289.out) hb); have n1_ := Aside0.mk (below_step (by repeat (first | (with_reducible first | exact HB.out | apply below_alloc | apply pw_below_drewN | apply below_drew1 | refine below_set ?_ GE289.out) | exact HB.out)) hb); clear BK289; clear HB; have BK289 := n0_; have HB := n1_; clear n0_ n1_; (try clear hb); (try clear hb2); (try clear hk); (try clear hi)) | ((with_reducible refine gate_dst (N := 8) rfl ?_); (try (refine gate_guard (by rfl) ?_; dsimp only)); refine box_event ?hg (N := 8) ?hd (cs := #[.string (⟨#[]⟩ : ByteArray), .string (⟨#[]⟩ : ByteArray)]) (t := 33) ?hr ?_; (case hd => rfl); (case hg => rfl); (case hr => first | (go_simp; done) | (go_simp; rfl)); intro gb294 hg w22 hbox hb; have n0_ := Aside0.mk (blk_below (g := gb289) (o := .cells #[.string x290000_2, .string x290001_2] 33 (0, 0)) (by (with_reducible repeat (first | refine blk_drewN ?_ _ | refine blk_drew ?_ | refine blk_alloc ?_ _)); exact BK289.out) hb); have n1_ := Aside0.mk (below_step (by repeat (first | (with_reducible first | exact HB.out | apply below_alloc | apply pw_below_drewN | apply below_drew1 | refine below_set ?_ GE289.out) | exact HB.out)) hb); have n2_ := Aside0.mk (hbox); have n3_ := Aside0.mk ((by rw [hg]; exact (below_size (by repeat (first | (with_reducible first | exact HB.out | apply below_alloc | apply pw_below_drewN | apply below_drew1 | refine below_set ?_ GE289.out) | exact HB.out))) : w.heap.size ≤ gb294)); have n4_ := Aside0.mk ((by rw [hg]; exact (below_size (by repeat (first | (with_reducible first | exact HB.out | apply below_alloc | apply pw_below_drewN | apply below_drew1 | refine below_set ?_ GE289.out) | exact HB.out))) : w.heap.size ≤ gb294)); have n5_ := Aside0.mk ((by rw [hg]; exact Nat.ne_of_lt (blk_lt (g := gb289) (o := .cells #[.string x290000_2, .string x290001_2] 33 (0, 0)) (by (with_reducible repeat (first | refine blk_drewN ?_ _ | refine blk_drew ?_ | refine blk_alloc ?_ _)); exact BK289.out)) : gb289 ≠ gb294)); have n6_ := Aside0.mk ((by rw [hg]; exact Nat.ne_of_gt (blk_lt (g := gb289) (o := .cells #[.string x290000_2, .string x290001_2] 33 (0, 0)) (by (with_reducible repeat (first | refine blk_drewN ?_ _ | refine blk_drew ?_ | refine blk_alloc ?_ _)); exact BK289.out)) : gb294 ≠ gb289)); clear BK289; clear HB; have BK289 := n0_; have HB := n1_; have BK294 := n2_; have GW294 := n3_; have GE294 := n4_; have NB289_294 := n5_; have NB294_289 := n6_; clear n0_ n1_ n2_ n3_ n4_ n5_ n6_; clear hb hbox hg; have hnb23 := NB294_289.out; have hnc23 := NB289_294.out; have hcz24_0 : w22.cell? ⟨gb294, 0, none⟩ = some (.string (⟨#[]⟩ : ByteArray)) := (blk_cell BK294.out 0).trans rfl; have hcz24_1 : w22.cell? ⟨gb294, 1, none⟩ = some (.string (⟨#[]⟩ : ByteArray)) := (blk_cell BK294.out 1).trans rfl; have hfz24_0 := blk_frozen BK294.out 0; have hfz24_1 := blk_frozen BK294.out 1; have hcz25_0 : w22.cell? ⟨gb289, 0, none⟩ = some (.string x290000_2) := (blk_cell BK289.out 0).trans rfl; have hcz25_1 : w22.cell? ⟨gb289, 1, none⟩ = some (.string x290001_2) := (blk_cell BK289.out 1).trans rfl; have hfz25_0 := blk_frozen BK289.out 0; have hfz25_1 := blk_frozen BK289.out 1))
                    go_roundg k2
                    case measure => have := HJ2.out; have := HK2.out; omega
                    case rel => exact ⟨(wrap64 (x30_2 + 1)), (t291), (t292), (by first | rfl | (simp; done) | (simp [*]; done)), H', ⟨by have := HJ2.out; have := HK2.out; omega⟩, ⟨by (with_reducible repeat (first | refine blk_drewN ?_ _ | refine blk_drew ?_ | refine blk_alloc ?_ _)); refine blk_put (cs := #[.string t291, .string x290001_2]) ?_ 1 _ rfl; (with_reducible repeat (first | refine blk_drewN ?_ _ | refine blk_drew ?_ | refine blk_alloc ?_ _)); refine blk_put (cs := #[.string x290000_2, .string x290001_2]) ?_ 0 _ rfl; (with_reducible repeat (first | refine blk_drewN ?_ _ | refine blk_drew ?_ | refine blk_alloc ?_ _)); refine blk_far ?_ NB289_294.out _; (with_reducible repeat (first | refine blk_drewN ?_ _ | refine blk_drew ?_ | refine blk_alloc ?_ _)); refine blk_far ?_ NB289_294.out _; (with_reducible repeat (first | refine blk_drewN ?_ _ | refine blk_drew ?_ | refine blk_alloc ?_ _)); exact BK289.out⟩, ⟨by repeat (first | (with_reducible first | exact HB.out | apply below_alloc | apply pw_below_drewN | apply below_drew1 | refine below_set ?_ GE289.out | refine below_set ?_ GE294.out) | exact HB.out)⟩⟩
                  · rw [if_neg c19] at H
                    have c19b0 : (t293 == 0) = false := beq_eq_false_iff_ne.mpr c19
                    have c19b1 : (t293 != 0) = true := bne_iff_ne.mpr c19
                    obtain rfl := Option.some.inj H
                    have p290 : 0 ≤ (x30_2 : Int) := of_decide_eq_true (by first | (with_reducible assumption) | assumption)
                    have q290 : x30_2 < (l0.length : Int) := of_decide_eq_true (by first | (with_reducible assumption) | assumption)
                    obtain ⟨ad290, e290, hx290_0⟩ := Kd.at_string HR0.out x30_2 p290 q290
                    cases e290
                    replace hx290_0 := (HB.out.cell (World.block_lt_of_cell? w _ hx290_0)).trans hx290_0
                    replace p290 := eq_true p290
                    replace q290 := eq_true q290
                    have hcz26_0 : wr.cell? ⟨gb289, 0, none⟩ = some (.string x290000_2) := (blk_cell BK289.out 0).trans rfl
                    have hcz26_1 : wr.cell? ⟨gb289, 1, none⟩ = some (.string x290001_2) := (blk_cell BK289.out 1).trans rfl
                    have hfz26_0 := blk_frozen BK289.out 0
                    have hfz26_1 := blk_frozen BK289.out 1
                    go_wp2_with (first | ((with_reducible refine gate_callee (f := 21) rfl ?_); refine goesL_ (some 37) rfl rfl Try.func21 (by kernel_rfl) rfl #[.agg #[.string x290000_2, .string x290001_2], .string (rdOf ByteArray.empty l0 x30_2)] rfl (by (try simp only [List.map_toArray, List.map_cons, List.map_nil]); first | done | rfl | (simp only [List.length_drop, List.length_take]; rfl) | (simp only [decide_eq_true_eq, decide_eq_false_iff_not] at *; congr <;> (first | rfl | (refine (congrArg (Value.int .i64) ?_ : Value.int .i64 _ = Value.int .i64 _); unfold wrap64; omega) | fail)) | fail) ?_; (with_reducible refine (journal_Append.calls k2 x290000_2 x290001_2 (rdOf ByteArray.empty l0 x30_2) t291 t292 t293 _ A18.out).mono ?_); rintro e w27 ⟨rfl, hb⟩; refine ⟨_, rfl, ?_⟩; have n0_ := Aside0.mk (blk_below (g := gb289) (o := .cells #[.string x290000_2, .string x290001_2] 33 (0, 0)) (by (with_reducible repeat (first | refine blk_drewN ?_ _ | refine blk_drew ?_ | refine blk_alloc ?_ _)); exact BK289.out) hb); have n1_ := Aside0.mk (below_step (by repeat (first | (with_reducible first | exact HB.out | apply below_alloc | apply pw_below_drewN | apply below_drew1 | refine below_set ?_ GE289.out) | exact HB.out)) hb); clear BK289; clear HB; have BK289 := n0_; have HB := n1_; clear n0_ n1_; (try clear hb); (try clear hb2); (try clear hk); (try clear hi)) | ((with_reducible refine gate_dst (N := 8) rfl ?_); (try (refine gate_guard (by rfl) ?_; dsimp only)); refine box_event ?hg (N := 8) ?hd (cs := #[.string (⟨#[]⟩ : ByteArray), .string (⟨#[]⟩ : ByteArray)]) (t := 33) ?hr ?_; (case hd => rfl); (case hg => rfl); (case hr => first | (go_simp; done) | (go_simp; rfl)); intro gb294 hg w28 hbox hb; have n0_ := Aside0.mk (blk_below (g := gb289) (o := .cells #[.string x290000_2, .string x290001_2] 33 (0, 0)) (by (with_reducible repeat (first | refine blk_drewN ?_ _ | refine blk_drew ?_ | refine blk_alloc ?_ _)); exact BK289.out) hb); have n1_ := Aside0.mk (below_step (by repeat (first | (with_reducible first | exact HB.out | apply below_alloc | apply pw_below_drewN | apply below_drew1 | refine below_set ?_ GE289.out) | exact HB.out)) hb); have n2_ := Aside0.mk (hbox); have n3_ := Aside0.mk ((by rw [hg]; exact (below_size (by repeat (first | (with_reducible first | exact HB.out | apply below_alloc | apply pw_below_drewN | apply below_drew1 | refine below_set ?_ GE289.out) | exact HB.out))) : w.heap.size ≤ gb294)); have n4_ := Aside0.mk ((by rw [hg]; exact (below_size (by repeat (first | (with_reducible first | exact HB.out | apply below_alloc | apply pw_below_drewN | apply below_drew1 | refine below_set ?_ GE289.out) | exact HB.out))) : w.heap.size ≤ gb294)); have n5_ := Aside0.mk ((by rw [hg]; exact Nat.ne_of_lt (blk_lt (g := gb289) (o := .cells #[.string x290000_2, .string x290001_2] 33 (0, 0)) (by (with_reducible repeat (first | refine blk_drewN ?_ _ | refine blk_drew ?_ | refine blk_alloc ?_ _)); exact BK289.out)) : gb289 ≠ gb294)); have n6_ := Aside0.mk ((by rw [hg]; exact Nat.ne_of_gt (blk_lt (g := gb289) (o := .cells #[.string x290000_2, .string x290001_2] 33 (0, 0)) (by (with_reducible repeat (first | refine blk_drewN ?_ _ | refine blk_drew ?_ | refine blk_alloc ?_ _)); exact BK289.out)) : gb294 ≠ gb289)); clear BK289; clear HB; have BK289 := n0_; have HB := n1_; have BK294 := n2_; have GW294 := n3_; have GE294 := n4_; have NB289_294 := n5_; have NB294_289 := n6_; clear n0_ n1_ n2_ n3_ n4_ n5_ n6_; clear hb hbox hg; have hnb29 := NB294_289.out; have hnc29 := NB289_294.out; have hcz30_0 : w28.cell? ⟨gb294, 0, none⟩ = some (.string (⟨#[]⟩ : ByteArray)) := (blk_cell BK294.out 0).trans rfl; have hcz30_1 : w28.cell? ⟨gb294, 1, none⟩ = some (.string (⟨#[]⟩ : ByteArray)) := (blk_cell BK294.out 1).trans rfl; have hfz30_0 := blk_frozen BK294.out 0; have hfz30_1 := blk_frozen BK294.out 1))
                    go_ret
                    exact ⟨by first | rfl | (simp [errW_none, errW_some] <;> rfl) | (simp [*, errW_none, errW_some] <;> rfl), by repeat (first | (with_reducible first | exact HB.out | apply below_alloc | apply pw_below_drewN | apply below_drew1 | refine below_set ?_ GE289.out | refine below_set ?_ GE294.out) | exact HB.out)⟩
                · rw [if_neg c17] at H
                  exact absurd H (by simp)
              · rw [if_neg c16] at H
                exact absurd H (by simp)
            · rw [if_neg c15] at H
              have c15b0 : decide (x30_2 < (l0.length : Int)) = false := decide_eq_false c15
              clear c15
              replace H := Option.bind_eq_some_iff.mp H
              obtain ⟨⟨t295, t296, t297⟩, A310, H⟩ := H
              replace H : (if (wrap64 ((x290001_2.size : Int) + 1)) = 0 then (none) else ((journal_Crash.f x290000_2 x290001_2 (Int.tmod (wrap64 (a1)) (wrap64 ((x290001_2.size : Int) + 1))) (-1)).bind fun bt299 => ((journal_Sync.f x290000_2 x290001_2).bind fun bt303 => ((journal_Crash.f bt303.1 bt303.2 0 (-1)).bind fun bt305 => (if t297 = 0 then (if bt299.2.2 = 0 then (if bt305.2.2 = 0 then ((journal_Read.f k2 t295 t296).bind fun t309 => ((ancepsref56_Same.f k2 t309 l0).bind fun t312 => (if t312 = true then ((journal_Read.f k2 bt305.1 bt305.2.1).bind fun t313 => ((ancepsref56_Same.f k2 t313 l0).bind fun t316 => (ancepslaw56_JournalKeeps.j2 k2 l0 (Int.tmod (wrap64 (a1)) (wrap64 ((x290001_2.size : Int) + 1))) (!t316) bt299.1 bt299.2.1))) else (ancepslaw56_JournalKeeps.j2 k2 l0 (Int.tmod (wrap64 (a1)) (wrap64 ((x290001_2.size : Int) + 1))) true bt299.1 bt299.2.1)))) else (ancepslaw56_JournalKeeps.j2 k2 l0 (Int.tmod (wrap64 (a1)) (wrap64 ((x290001_2.size : Int) + 1))) true bt299.1 bt299.2.1)) else (ancepslaw56_JournalKeeps.j2 k2 l0 (Int.tmod (wrap64 (a1)) (wrap64 ((x290001_2.size : Int) + 1))) true bt299.1 bt299.2.1)) else (ancepslaw56_JournalKeeps.j2 k2 l0 (Int.tmod (wrap64 (a1)) (wrap64 ((x290001_2.size : Int) + 1))) true bt299.1 bt299.2.1)))))) = some r := H
              have A31 := Aside0.mk A310
              clear A310
              by_cases c32 : (wrap64 ((x290001_2.size : Int) + 1)) = 0
              · rw [if_pos c32] at H
                exact absurd H (by simp)
              · rw [if_neg c32] at H
                have c32b0 : ((wrap64 ((x290001_2.size : Int) + 1)) == 0) = false := beq_eq_false_iff_ne.mpr c32
                have c32b1 : ((wrap64 ((x290001_2.size : Int) + 1)) != 0) = true := bne_iff_ne.mpr c32
                replace H := Option.bind_eq_some_iff.mp H
                obtain ⟨⟨t299, t300, t301⟩, A330, H⟩ := H
                replace H : ((journal_Sync.f x290000_2 x290001_2).bind fun bt303 => ((journal_Crash.f bt303.1 bt303.2 0 (-1)).bind fun bt305 => (if t297 = 0 then (if t301 = 0 then (if bt305.2.2 = 0 then ((journal_Read.f k2 t295 t296).bind fun t309 => ((ancepsref56_Same.f k2 t309 l0).bind fun t312 => (if t312 = true then ((journal_Read.f k2 bt305.1 bt305.2.1).bind fun t313 => ((ancepsref56_Same.f k2 t313 l0).bind fun t316 => (ancepslaw56_JournalKeeps.j2 k2 l0 (Int.tmod (wrap64 (a1)) (wrap64 ((x290001_2.size : Int) + 1))) (!t316) t299 t300))) else (ancepslaw56_JournalKeeps.j2 k2 l0 (Int.tmod (wrap64 (a1)) (wrap64 ((x290001_2.size : Int) + 1))) true t299 t300)))) else (ancepslaw56_JournalKeeps.j2 k2 l0 (Int.tmod (wrap64 (a1)) (wrap64 ((x290001_2.size : Int) + 1))) true t299 t300)) else (ancepslaw56_JournalKeeps.j2 k2 l0 (Int.tmod (wrap64 (a1)) (wrap64 ((x290001_2.size : Int) + 1))) true t299 t300)) else (ancepslaw56_JournalKeeps.j2 k2 l0 (Int.tmod (wrap64 (a1)) (wrap64 ((x290001_2.size : Int) + 1))) true t299 t300)))) = some r := H
                have A33 := Aside0.mk A330
                clear A330
                replace H := Option.bind_eq_some_iff.mp H
                obtain ⟨⟨t303, t304⟩, A340, H⟩ := H
                replace H : ((journal_Crash.f t303 t304 0 (-1)).bind fun bt305 => (if t297 = 0 then (if t301 = 0 then (if bt305.2.2 = 0 then ((journal_Read.f k2 t295 t296).bind fun t309 => ((ancepsref56_Same.f k2 t309 l0).bind fun t312 => (if t312 = true then ((journal_Read.f k2 bt305.1 bt305.2.1).bind fun t313 => ((ancepsref56_Same.f k2 t313 l0).bind fun t316 => (ancepslaw56_JournalKeeps.j2 k2 l0 (Int.tmod (wrap64 (a1)) (wrap64 ((x290001_2.size : Int) + 1))) (!t316) t299 t300))) else (ancepslaw56_JournalKeeps.j2 k2 l0 (Int.tmod (wrap64 (a1)) (wrap64 ((x290001_2.size : Int) + 1))) true t299 t300)))) else (ancepslaw56_JournalKeeps.j2 k2 l0 (Int.tmod (wrap64 (a1)) (wrap64 ((x290001_2.size : Int) + 1))) true t299 t300)) else (ancepslaw56_JournalKeeps.j2 k2 l0 (Int.tmod (wrap64 (a1)) (wrap64 ((x290001_2.size : Int) + 1))) true t299 t300)) else (ancepslaw56_JournalKeeps.j2 k2 l0 (Int.tmod (wrap64 (a1)) (wrap64 ((x290001_2.size : Int) + 1))) true t299 t300))) = some r := H
                have A34 := Aside0.mk A340
                clear A340
                replace H := Option.bind_eq_some_iff.mp H
                obtain ⟨⟨t305, t306, t307⟩, A350, H⟩ := H
                replace H : (if t297 = 0 then (if t301 = 0 then (if t307 = 0 then ((journal_Read.f k2 t295 t296).bind fun t309 => ((ancepsref56_Same.f k2 t309 l0).bind fun t312 => (if t312 = true then ((journal_Read.f k2 t305 t306).bind fun t313 => ((ancepsref56_Same.f k2 t313 l0).bind fun t316 => (ancepslaw56_JournalKeeps.j2 k2 l0 (Int.tmod (wrap64 (a1)) (wrap64 ((x290001_2.size : Int) + 1))) (!t316) t299 t300))) else (ancepslaw56_JournalKeeps.j2 k2 l0 (Int.tmod (wrap64 (a1)) (wrap64 ((x290001_2.size : Int) + 1))) true t299 t300)))) else (ancepslaw56_JournalKeeps.j2 k2 l0 (Int.tmod (wrap64 (a1)) (wrap64 ((x290001_2.size : Int) + 1))) true t299 t300)) else (ancepslaw56_JournalKeeps.j2 k2 l0 (Int.tmod (wrap64 (a1)) (wrap64 ((x290001_2.size : Int) + 1))) true t299 t300)) else (ancepslaw56_JournalKeeps.j2 k2 l0 (Int.tmod (wrap64 (a1)) (wrap64 ((x290001_2.size : Int) + 1))) true t299 t300)) = some r := H
                have A35 := Aside0.mk A350
                clear A350
                have HC36 := Aside0.mk H
                clear H
                have hcz37_0 : wr.cell? ⟨gb289, 0, none⟩ = some (.string x290000_2) := (blk_cell BK289.out 0).trans rfl
                have hcz37_1 : wr.cell? ⟨gb289, 1, none⟩ = some (.string x290001_2) := (blk_cell BK289.out 1).trans rfl
                have hfz37_0 := blk_frozen BK289.out 0
                have hfz37_1 := blk_frozen BK289.out 1
                go_upto_region 16 with (first | ((with_reducible refine gate_callee (f := 27) rfl ?_); refine goesL_ (some 52) rfl rfl Try.func27 (by kernel_rfl) rfl #[.agg #[.string x290000_2, .string x290001_2], .int .i64 (x290001_2.size : Int), .int .i64 (-1)] rfl (by (try simp only [List.map_toArray, List.map_cons, List.map_nil]); first | done | rfl | (simp only [List.length_drop, List.length_take]; rfl) | (simp only [decide_eq_true_eq, decide_eq_false_iff_not] at *; congr <;> (first | rfl | (refine (congrArg (Value.int .i64) ?_ : Value.int .i64 _ = Value.int .i64 _); unfold wrap64; omega) | fail)) | fail) ?_; (with_reducible refine (journal_Crash.calls x290000_2 x290001_2 (x290001_2.size : Int) (-1) t295 t296 t297 _ A31.out).mono ?_); rintro e w38 ⟨rfl, hb⟩; refine ⟨_, rfl, ?_⟩; have n0_ := Aside0.mk (blk_below (g := gb289) (o := .cells #[.string x290000_2, .string x290001_2] 33 (0, 0)) (by (with_reducible repeat (first | refine blk_drewN ?_ _ | refine blk_drew ?_ | refine blk_alloc ?_ _)); exact BK289.out) hb); have n1_ := Aside0.mk (below_step (by repeat (first | (with_reducible first | exact HB.out | apply below_alloc | apply pw_below_drewN | apply below_drew1 | refine below_set ?_ GE289.out) | exact HB.out)) hb); clear BK289; clear HB; have BK289 := n0_; have HB := n1_; clear n0_ n1_; (try clear hb); (try clear hb2); (try clear hk); (try clear hi)) | ((with_reducible refine gate_dst (N := 10) rfl ?_); (try (refine gate_guard (by rfl) ?_; dsimp only)); refine box_event ?hg (N := 10) ?hd (cs := #[.string (⟨#[]⟩ : ByteArray), .string (⟨#[]⟩ : ByteArray)]) (t := 33) ?hr ?_; (case hd => rfl); (case hg => rfl); (case hr => first | (go_simp; done) | (go_simp; rfl)); intro gb298 hg w39 hbox hb; have n0_ := Aside0.mk (blk_below (g := gb289) (o := .cells #[.string x290000_2, .string x290001_2] 33 (0, 0)) (by (with_reducible repeat (first | refine blk_drewN ?_ _ | refine blk_drew ?_ | refine blk_alloc ?_ _)); exact BK289.out) hb); have n1_ := Aside0.mk (below_step (by repeat (first | (with_reducible first | exact HB.out | apply below_alloc | apply pw_below_drewN | apply below_drew1 | refine below_set ?_ GE289.out) | exact HB.out)) hb); have n2_ := Aside0.mk (hbox); have n3_ := Aside0.mk ((by rw [hg]; exact (below_size (by repeat (first | (with_reducible first | exact HB.out | apply below_alloc | apply pw_below_drewN | apply below_drew1 | refine below_set ?_ GE289.out) | exact HB.out))) : w.heap.size ≤ gb298)); have n4_ := Aside0.mk ((by rw [hg]; exact (below_size (by repeat (first | (with_reducible first | exact HB.out | apply below_alloc | apply pw_below_drewN | apply below_drew1 | refine below_set ?_ GE289.out) | exact HB.out))) : w.heap.size ≤ gb298)); have n5_ := Aside0.mk ((by rw [hg]; exact Nat.ne_of_lt (blk_lt (g := gb289) (o := .cells #[.string x290000_2, .string x290001_2] 33 (0, 0)) (by (with_reducible repeat (first | refine blk_drewN ?_ _ | refine blk_drew ?_ | refine blk_alloc ?_ _)); exact BK289.out)) : gb289 ≠ gb298)); have n6_ := Aside0.mk ((by rw [hg]; exact Nat.ne_of_gt (blk_lt (g := gb289) (o := .cells #[.string x290000_2, .string x290001_2] 33 (0, 0)) (by (with_reducible repeat (first | refine blk_drewN ?_ _ | refine blk_drew ?_ | refine blk_alloc ?_ _)); exact BK289.out)) : gb298 ≠ gb289)); clear BK289; clear HB; have BK289 := n0_; have HB := n1_; have BK298 := n2_; have GW298 := n3_; have GE298 := n4_; have NB289_298 := n5_; have NB298_289 := n6_; clear n0_ n1_ n2_ n3_ n4_ n5_ n6_; clear hb hbox hg; have hnb40 := NB298_289.out; have hnc40 := NB289_298.out; have hcz41_0 : w39.cell? ⟨gb298, 0, none⟩ = some (.string (⟨#[]⟩ : ByteArray)) := (blk_cell BK298.out 0).trans rfl; have hcz41_1 : w39.cell? ⟨gb298, 1, none⟩ = some (.string (⟨#[]⟩ : ByteArray)) := (blk_cell BK298.out 1).trans rfl; have hfz41_0 := blk_frozen BK298.out 0; have hfz41_1 := blk_frozen BK298.out 1; have hcz42_0 : w39.cell? ⟨gb289, 0, none⟩ = some (.string x290000_2) := (blk_cell BK289.out 0).trans rfl; have hcz42_1 : w39.cell? ⟨gb289, 1, none⟩ = some (.string x290001_2) := (blk_cell BK289.out 1).trans rfl; have hfz42_0 := blk_frozen BK289.out 0; have hfz42_1 := blk_frozen BK289.out 1) | ((with_reducible refine gate_callee (f := 27) rfl ?_); refine goesL_ (some 65) rfl rfl Try.func27 (by kernel_rfl) rfl #[.agg #[.string x290000_2, .string x290001_2], .int .i64 (Int.tmod (wrap64 (a1)) (wrap64 ((x290001_2.size : Int) + 1))), .int .i64 (-1)] rfl (by (try simp only [List.map_toArray, List.map_cons, List.map_nil]); first | done | rfl | (simp only [List.length_drop, List.length_take]; rfl) | (simp only [decide_eq_true_eq, decide_eq_false_iff_not] at *; congr <;> (first | rfl | (refine (congrArg (Value.int .i64) ?_ : Value.int .i64 _ = Value.int .i64 _); unfold wrap64; omega) | fail)) | fail) ?_; (with_reducible refine (journal_Crash.calls x290000_2 x290001_2 (Int.tmod (wrap64 (a1)) (wrap64 ((x290001_2.size : Int) + 1))) (-1) t299 t300 t301 _ A33.out).mono ?_); rintro e w43 ⟨rfl, hb⟩; refine ⟨_, rfl, ?_⟩; have n0_ := Aside0.mk (blk_below (g := gb289) (o := .cells #[.string x290000_2, .string x290001_2] 33 (0, 0)) (by (with_reducible repeat (first | refine blk_drewN ?_ _ | refine blk_drew ?_ | refine blk_alloc ?_ _)); refine blk_far ?_ NB289_298.out _; (with_reducible repeat (first | refine blk_drewN ?_ _ | refine blk_drew ?_ | refine blk_alloc ?_ _)); refine blk_far ?_ NB289_298.out _; (with_reducible repeat (first | refine blk_drewN ?_ _ | refine blk_drew ?_ | refine blk_alloc ?_ _)); exact BK289.out) hb); have n1_ := Aside0.mk (blk_below (g := gb298) (o := .cells #[.string t295, .string t296] 33 (0, 0)) (by (with_reducible repeat (first | refine blk_drewN ?_ _ | refine blk_drew ?_ | refine blk_alloc ?_ _)); refine blk_put (cs := #[.string t295, .string (⟨#[]⟩ : ByteArray)]) ?_ 1 _ rfl; (with_reducible repeat (first | refine blk_drewN ?_ _ | refine blk_drew ?_ | refine blk_alloc ?_ _)); refine blk_put (cs := #[.string (⟨#[]⟩ : ByteArray), .string (⟨#[]⟩ : ByteArray)]) ?_ 0 _ rfl; (with_reducible repeat (first | refine blk_drewN ?_ _ | refine blk_drew ?_ | refine blk_alloc ?_ _)); exact BK298.out) hb); have n2_ := Aside0.mk (below_step (by repeat (first | (with_reducible first | exact HB.out | apply below_alloc | apply pw_below_drewN | apply below_drew1 | refine below_set ?_ GE289.out | refine below_set ?_ GE298.out) | exact HB.out)) hb); clear BK289; clear BK298; clear HB; have BK289 := n0_; have BK298 := n1_; have HB := n2_; clear n0_ n1_ n2_; (try clear hb); (try clear hb2); (try clear hk); (try clear hi)) | ((with_reducible refine gate_dst (N := 13) rfl ?_); (try (refine gate_guard (by rfl) ?_; dsimp only)); refine box_event ?hg (N := 13) ?hd (cs := #[.string (⟨#[]⟩ : ByteArray), .string (⟨#[]⟩ : ByteArray)]) (t := 33) ?hr ?_; (case hd => rfl); (case hg => rfl); (case hr => first | (go_simp; done) | (go_simp; rfl)); intro gb302 hg w44 hbox hb; have n0_ := Aside0.mk (blk_below (g := gb289) (o := .cells #[.string x290000_2, .string x290001_2] 33 (0, 0)) (by (with_reducible repeat (first | refine blk_drewN ?_ _ | refine blk_drew ?_ | refine blk_alloc ?_ _)); exact BK289.out) hb); have n1_ := Aside0.mk (blk_below (g := gb298) (o := .cells #[.string t295, .string t296] 33 (0, 0)) (by (with_reducible repeat (first | refine blk_drewN ?_ _ | refine blk_drew ?_ | refine blk_alloc ?_ _)); exact BK298.out) hb); have n2_ := Aside0.mk (below_step (by repeat (first | (with_reducible first | exact HB.out | apply below_alloc | apply pw_below_drewN | apply below_drew1 | refine below_set ?_ GE289.out | refine below_set ?_ GE298.out) | exact HB.out)) hb); have n3_ := Aside0.mk (hbox); have n4_ := Aside0.mk ((by rw [hg]; exact (below_size (by repeat (first | (with_reducible first | exact HB.out | apply below_alloc | apply pw_below_drewN | apply below_drew1 | refine below_set ?_ GE289.out | refine below_set ?_ GE298.out) | exact HB.out))) : w.heap.size ≤ gb302)); have n5_ := Aside0.mk ((by rw [hg]; exact (below_size (by repeat (first | (with_reducible first | exact HB.out | apply below_alloc | apply pw_below_drewN | apply below_drew1 | refine below_set ?_ GE289.out | refine below_set ?_ GE298.out) | exact HB.out))) : w.heap.size ≤ gb302)); have n6_ := Aside0.mk ((by rw [hg]; exact Nat.ne_of_lt (blk_lt (g := gb289) (o := .cells #[.string x290000_2, .string x290001_2] 33 (0, 0)) (by (with_reducible repeat (first | refine blk_drewN ?_ _ | refine blk_drew ?_ | refine blk_alloc ?_ _)); exact BK289.out)) : gb289 ≠ gb302)); have n7_ := Aside0.mk ((by rw [hg]; exact Nat.ne_of_gt (blk_lt (g := gb289) (o := .cells #[.string x290000_2, .string x290001_2] 33 (0, 0)) (by (with_reducible repeat (first | refine blk_drewN ?_ _ | refine blk_drew ?_ | refine blk_alloc ?_ _)); exact BK289.out)) : gb302 ≠ gb289)); have n8_ := Aside0.mk ((by rw [hg]; exact Nat.ne_of_lt (blk_lt (g := gb298) (o := .cells #[.string t295, .string t296] 33 (0, 0)) (by (with_reducible repeat (first | refine blk_drewN ?_ _ | refine blk_drew ?_ | refine blk_alloc ?_ _)); exact BK298.out)) : gb298 ≠ gb302)); have n9_ := Aside0.mk ((by rw [hg]; exact Nat.ne_of_gt (blk_lt (g := gb298) (o := .cells #[.string t295, .string t296] 33 (0, 0)) (by (with_reducible repeat (first | refine blk_drewN ?_ _ | refine blk_drew ?_ | refine blk_alloc ?_ _)); exact BK298.out)) : gb302 ≠ gb298)); clear BK289; clear BK298; clear HB; have BK289 := n0_; have BK298 := n1_; have HB := n2_; have BK302 := n3_; have GW302 := n4_; have GE302 := n5_; have NB289_302 := n6_; have NB302_289 := n7_; have NB298_302 := n8_; have NB302_298 := n9_; clear n0_ n1_ n2_ n3_ n4_ n5_ n6_ n7_ n8_ n9_; clear hb hbox hg; have hnb45 := NB302_289.out; have hnc45 := NB289_302.out; have hnb46 := NB302_298.out; have hnc46 := NB298_302.out; have hcz47_0 : w44.cell? ⟨gb302, 0, none⟩ = some (.string (⟨#[]⟩ : ByteArray)) := (blk_cell BK302.out 0).trans rfl; have hcz47_1 : w44.cell? ⟨gb302, 1, none⟩ = some (.string (⟨#[]⟩ : ByteArray)) := (blk_cell BK302.out 1).trans rfl; have hfz47_0 := blk_frozen BK302.out 0; have hfz47_1 := blk_frozen BK302.out 1; have hcz48_0 : w44.cell? ⟨gb289, 0, none⟩ = some (.string x290000_2) := (blk_cell BK289.out 0).trans rfl; have hcz48_1 : w44.cell? ⟨gb289, 1, none⟩ = some (.string x290001_2) := (blk_cell BK289.out 1).trans rfl; have hfz48_0 := blk_frozen BK289.out 0; have hfz48_1 := blk_frozen BK289.out 1) | ((with_reducible refine gate_callee (f := 23) rfl ?_); refine goesL_ (some 70) rfl rfl Try.func23 (by kernel_rfl) rfl #[.agg #[.string x290000_2, .string x290001_2]] rfl (by (try simp only [List.map_toArray, List.map_cons, List.map_nil]); first | done | rfl | (simp only [List.length_drop, List.length_take]; rfl) | (simp only [decide_eq_true_eq, decide_eq_false_iff_not] at *; congr <;> (first | rfl | (refine (congrArg (Value.int .i64) ?_ : Value.int .i64 _ = Value.int .i64 _); unfold wrap64; omega) | fail)) | fail) ?_; (with_reducible refine (journal_Sync.calls x290000_2 x290001_2 t303 t304 _ A34.out).mono ?_); rintro e w49 ⟨rfl, hb⟩; refine ⟨_, rfl, ?_⟩; have n0_ := Aside0.mk (blk_below (g := gb289) (o := .cells #[.string x290000_2, .string x290001_2] 33 (0, 0)) (by (with_reducible repeat (first | refine blk_drewN ?_ _ | refine blk_drew ?_ | refine blk_alloc ?_ _)); refine blk_far ?_ NB289_302.out _; (with_reducible repeat (first | refine blk_drewN ?_ _ | refine blk_drew ?_ | refine blk_alloc ?_ _)); refine blk_far ?_ NB289_302.out _; (with_reducible repeat (first | refine blk_drewN ?_ _ | refine blk_drew ?_ | refine blk_alloc ?_ _)); exact BK289.out) hb); have n1_ := Aside0.mk (blk_below (g := gb298) (o := .cells #[.string t295, .string t296] 33 (0, 0)) (by (with_reducible repeat (first | refine blk_drewN ?_ _ | refine blk_drew ?_ | refine blk_alloc ?_ _)); refine blk_far ?_ NB298_302.out _; (with_reducible repeat (first | refine blk_drewN ?_ _ | refine blk_drew ?_ | refine blk_alloc ?_ _)); refine blk_far ?_ NB298_302.out _; (with_reducible repeat (first | refine blk_drewN ?_ _ | refine blk_drew ?_ | refine blk_alloc ?_ _)); exact BK298.out) hb); have n2_ := Aside0.mk (blk_below (g := gb302) (o := .cells #[.string t299, .string t300] 33 (0, 0)) (by (with_reducible repeat (first | refine blk_drewN ?_ _ | refine blk_drew ?_ | refine blk_alloc ?_ _)); refine blk_put (cs := #[.string t299, .string (⟨#[]⟩ : ByteArray)]) ?_ 1 _ rfl; (with_reducible repeat (first | refine blk_drewN ?_ _ | refine blk_drew ?_ | refine blk_alloc ?_ _)); refine blk_put (cs := #[.string (⟨#[]⟩ : ByteArray), .string (⟨#[]⟩ : ByteArray)]) ?_ 0 _ rfl; (with_reducible repeat (first | refine blk_drewN ?_ _ | refine blk_drew ?_ | refine blk_alloc ?_ _)); exact BK302.out) hb); have n3_ := Aside0.mk (below_step (by repeat (first | (with_reducible first | exact HB.out | apply below_alloc | apply pw_below_drewN | apply below_drew1 | refine below_set ?_ GE289.out | refine below_set ?_ GE298.out | refine below_set ?_ GE302.out) | exact HB.out)) hb); clear BK289; clear BK298; clear BK302; clear HB; have BK289 := n0_; have BK298 := n1_; have BK302 := n2_; have HB := n3_; clear n0_ n1_ n2_ n3_; (try clear hb); (try clear hb2); (try clear hk); (try clear hi)) | ((with_reducible refine gate_callee (f := 27) rfl ?_); refine goesL_ (some 71) rfl rfl Try.func27 (by kernel_rfl) rfl #[.agg #[.string t303, .string t304], .int .i64 0, .int .i64 (-1)] rfl (by (try simp only [List.map_toArray, List.map_cons, List.map_nil]); first | done | rfl | (simp only [List.length_drop, List.length_take]; rfl) | (simp only [decide_eq_true_eq, decide_eq_false_iff_not] at *; congr <;> (first | rfl | (refine (congrArg (Value.int .i64) ?_ : Value.int .i64 _ = Value.int .i64 _); unfold wrap64; omega) | fail)) | fail) ?_; (with_reducible refine (journal_Crash.calls t303 t304 0 (-1) t305 t306 t307 _ A35.out).mono ?_); rintro e w50 ⟨rfl, hb⟩; refine ⟨_, rfl, ?_⟩; have n0_ := Aside0.mk (blk_below (g := gb289) (o := .cells #[.string x290000_2, .string x290001_2] 33 (0, 0)) (by (with_reducible repeat (first | refine blk_drewN ?_ _ | refine blk_drew ?_ | refine blk_alloc ?_ _)); exact BK289.out) hb); have n1_ := Aside0.mk (blk_below (g := gb298) (o := .cells #[.string t295, .string t296] 33 (0, 0)) (by (with_reducible repeat (first | refine blk_drewN ?_ _ | refine blk_drew ?_ | refine blk_alloc ?_ _)); exact BK298.out) hb); have n2_ := Aside0.mk (blk_below (g := gb302) (o := .cells #[.string t299, .string t300] 33 (0, 0)) (by (with_reducible repeat (first | refine blk_drewN ?_ _ | refine blk_drew ?_ | refine blk_alloc ?_ _)); exact BK302.out) hb); have n3_ := Aside0.mk (below_step (by repeat (first | (with_reducible first | exact HB.out | apply below_alloc | apply pw_below_drewN | apply below_drew1 | refine below_set ?_ GE289.out | refine below_set ?_ GE298.out | refine below_set ?_ GE302.out) | exact HB.out)) hb); clear BK289; clear BK298; clear BK302; clear HB; have BK289 := n0_; have BK298 := n1_; have BK302 := n2_; have HB := n3_; clear n0_ n1_ n2_ n3_; (try clear hb); (try clear hb2); (try clear hk); (try clear hi)) | ((with_reducible refine gate_dst (N := 15) rfl ?_); (try (refine gate_guard (by rfl) ?_; dsimp only)); refine box_event ?hg (N := 15) ?hd (cs := #[.string (⟨#[]⟩ : ByteArray), .string (⟨#[]⟩ : ByteArray)]) (t := 33) ?hr ?_; (case hd => rfl); (case hg => rfl); (case hr => first | (go_simp; done) | (go_simp; rfl)); intro gb308 hg w51 hbox hb; have n0_ := Aside0.mk (blk_below (g := gb289) (o := .cells #[.string x290000_2, .string x290001_2] 33 (0, 0)) (by (with_reducible repeat (first | refine blk_drewN ?_ _ | refine blk_drew ?_ | refine blk_alloc ?_ _)); exact BK289.out) hb); have n1_ := Aside0.mk (blk_below (g := gb298) (o := .cells #[.string t295, .string t296] 33 (0, 0)) (by (with_reducible repeat (first | refine blk_drewN ?_ _ | refine blk_drew ?_ | refine blk_alloc ?_ _)); exact BK298.out) hb); have n2_ := Aside0.mk (blk_below (g := gb302) (o := .cells #[.string t299, .string t300] 33 (0, 0)) (by (with_reducible repeat (first | refine blk_drewN ?_ _ | refine blk_drew ?_ | refine blk_alloc ?_ _)); exact BK302.out) hb); have n3_ := Aside0.mk (below_step (by repeat (first | (with_reducible first | exact HB.out | apply below_alloc | apply pw_below_drewN | apply below_drew1 | refine below_set ?_ GE289.out | refine below_set ?_ GE298.out | refine below_set ?_ GE302.out) | exact HB.out)) hb); have n4_ := Aside0.mk (hbox); have n5_ := Aside0.mk ((by rw [hg]; exact (below_size (by repeat (first | (with_reducible first | exact HB.out | apply below_alloc | apply pw_below_drewN | apply below_drew1 | refine below_set ?_ GE289.out | refine below_set ?_ GE298.out | refine below_set ?_ GE302.out) | exact HB.out))) : w.heap.size ≤ gb308)); have n6_ := Aside0.mk ((by rw [hg]; exact (below_size (by repeat (first | (with_reducible first | exact HB.out | apply below_alloc | apply pw_below_drewN | apply below_drew1 | refine below_set ?_ GE289.out | refine below_set ?_ GE298.out | refine below_set ?_ GE302.out) | exact HB.out))) : w.heap.size ≤ gb308)); have n7_ := Aside0.mk ((by rw [hg]; exact Nat.ne_of_lt (blk_lt (g := gb289) (o := .cells #[.string x290000_2, .string x290001_2] 33 (0, 0)) (by (with_reducible repeat (first | refine blk_drewN ?_ _ | refine blk_drew ?_ | refine blk_alloc ?_ _)); exact BK289.out)) : gb289 ≠ gb308)); have n8_ := Aside0.mk ((by rw [hg]; exact Nat.ne_of_gt (blk_lt (g := gb289) (o := .cells #[.string x290000_2, .string x290001_2] 33 (0, 0)) (by (with_reducible repeat (first | refine blk_drewN ?_ _ | refine blk_drew ?_ | refine blk_alloc ?_ _)); exact BK289.out)) : gb308 ≠ gb289)); have n9_ := Aside0.mk ((by rw [hg]; exact Nat.ne_of_lt (blk_lt (g := gb298) (o := .cells #[.string t295, .string t296] 33 (0, 0)) (by (with_reducible repeat (first | refine blk_drewN ?_ _ | refine blk_drew ?_ | refine blk_alloc ?_ _)); exact BK298.out)) : gb298 ≠ gb308)); have n10_ := Aside0.mk ((by rw [hg]; exact Nat.ne_of_gt (blk_lt (g := gb298) (o := .cells #[.string t295, .string t296] 33 (0, 0)) (by (with_reducible repeat (first | refine blk_drewN ?_ _ | refine blk_drew ?_ | refine blk_alloc ?_ _)); exact BK298.out)) : gb308 ≠ gb298)); have n11_ := Aside0.mk ((by rw [hg]; exact Nat.ne_of_lt (blk_lt (g := gb302) (o := .cells #[.string t299, .string t300] 33 (0, 0)) (by (with_reducible repeat (first | refine blk_drewN ?_ _ | refine blk_drew ?_ | refine blk_alloc ?_ _)); exact BK302.out)) : gb302 ≠ gb308)); have n12_ := Aside0.mk ((by rw [hg]; exact Nat.ne_of_gt (blk_lt (g := gb302) (o := .cells #[.string t299, .string t300] 33 (0, 0)) (by (with_reducible repeat (first | refine blk_drewN ?_ _ | refine blk_drew ?_ | refine blk_alloc ?_ _)); exact BK302.out)) : gb308 ≠ gb302)); clear BK289; clear BK298; clear BK302; clear HB; have BK289 := n0_; have BK298 := n1_; have BK302 := n2_; have HB := n3_; have BK308 := n4_; have GW308 := n5_; have GE308 := n6_; have NB289_308 := n7_; have NB308_289 := n8_; have NB298_308 := n9_; have NB308_298 := n10_; have NB302_308 := n11_; have NB308_302 := n12_; clear n0_ n1_ n2_ n3_ n4_ n5_ n6_ n7_ n8_ n9_ n10_ n11_ n12_; clear hb hbox hg; have hnb52 := NB308_289.out; have hnc52 := NB289_308.out; have hnb53 := NB308_298.out; have hnc53 := NB298_308.out; have hnb54 := NB308_302.out; have hnc54 := NB302_308.out; have hcz55_0 : w51.cell? ⟨gb308, 0, none⟩ = some (.string (⟨#[]⟩ : ByteArray)) := (blk_cell BK308.out 0).trans rfl; have hcz55_1 : w51.cell? ⟨gb308, 1, none⟩ = some (.string (⟨#[]⟩ : ByteArray)) := (blk_cell BK308.out 1).trans rfl; have hfz55_0 := blk_frozen BK308.out 0; have hfz55_1 := blk_frozen BK308.out 1))
                (try simp only [Act.put, List.setIfInBounds_toArray, List.set_cons_zero, List.set_cons_succ])
                go_cut [97] (fun v97 wc => ∃ (kq : Nat) (x97_35 : Bool), v97 = .bool x97_35 ∧ Aside0 (ancepslaw56_JournalKeeps.j2 kq l0 (Int.tmod (wrap64 (a1)) (wrap64 ((x290001_2.size : Int) + 1))) x97_35 t299 t300 = some r) ∧ Aside0 (kq ≤ k2) ∧ Aside0 (wc.heap[gb289]? = some (.cells #[.string x290000_2, .string x290001_2] 33 (0, 0))) ∧ Aside0 (wc.heap[gb298]? = some (.cells #[.string t295, .string t296] 33 (0, 0))) ∧ Aside0 (wc.heap[gb302]? = some (.cells #[.string t299, .string t300] 33 (0, 0))) ∧ Aside0 (wc.heap[gb308]? = some (.cells #[.string t305, .string t306] 33 (0, 0))) ∧ Aside0 (Below w.heap.size w wc))
                case first =>
                  have H := HC36.out
                  clear HC36
                  by_cases c56 : t297 = 0
                  · rw [if_pos c56] at H
                    have c56b0 : (t297 == 0) = true := beq_iff_eq.mpr c56
                    have c56b1 : (t297 != 0) = false := bne_eq_false_iff_eq.mpr c56
                    clear c56
                    (first | rw [c56b0] | (simp only [i64_w, i32_w]; rw [c56b0]) | skip)
                    by_cases c57 : t301 = 0
                    · rw [if_pos c57] at H
                      have c57b0 : (t301 == 0) = true := beq_iff_eq.mpr c57
                      have c57b1 : (t301 != 0) = false := bne_eq_false_iff_eq.mpr c57
                      clear c57
                      by_cases c58 : t307 = 0
                      · rw [if_pos c58] at H
                        have c58b0 : (t307 == 0) = true := beq_iff_eq.mpr c58
                        have c58b1 : (t307 != 0) = false := bne_eq_false_iff_eq.mpr c58
                        clear c58
                        replace H := Option.bind_eq_some_iff.mp H
                        obtain ⟨t309, A590, H⟩ := H
                        replace H : ((ancepsref56_Same.f k2 t309 l0).bind fun t312 => (if t312 = true then ((journal_Read.f k2 t305 t306).bind fun t313 => ((ancepsref56_Same.f k2 t313 l0).bind fun t316 => (ancepslaw56_JournalKeeps.j2 k2 l0 (Int.tmod (wrap64 (a1)) (wrap64 ((x290001_2.size : Int) + 1))) (!t316) t299 t300))) else (ancepslaw56_JournalKeeps.j2 k2 l0 (Int.tmod (wrap64 (a1)) (wrap64 ((x290001_2.size : Int) + 1))) true t299 t300))) = some r := H
                        have A59 := Aside0.mk A590
                        clear A590
                        replace H := Option.bind_eq_some_iff.mp H
                        obtain ⟨t312, A600, H⟩ := H
                        replace H : (if t312 = true then ((journal_Read.f k2 t305 t306).bind fun t313 => ((ancepsref56_Same.f k2 t313 l0).bind fun t316 => (ancepslaw56_JournalKeeps.j2 k2 l0 (Int.tmod (wrap64 (a1)) (wrap64 ((x290001_2.size : Int) + 1))) (!t316) t299 t300))) else (ancepslaw56_JournalKeeps.j2 k2 l0 (Int.tmod (wrap64 (a1)) (wrap64 ((x290001_2.size : Int) + 1))) true t299 t300)) = some r := H
                        have A60 := Aside0.mk A600
                        clear A600
                        by_cases c61 : t312 = true
                        · subst c61
                          have H1 : ((journal_Read.f k2 t305 t306).bind fun t313 => ((ancepsref56_Same.f k2 t313 l0).bind fun t316 => (ancepslaw56_JournalKeeps.j2 k2 l0 (Int.tmod (wrap64 (a1)) (wrap64 ((x290001_2.size : Int) + 1))) (!t316) t299 t300))) = some r := by rw [if_pos rfl] at H; exact H
                          clear H
                          have H := H1
                          clear H1
                          replace H := Option.bind_eq_some_iff.mp H
                          obtain ⟨t313, A620, H⟩ := H
                          replace H : ((ancepsref56_Same.f k2 t313 l0).bind fun t316 => (ancepslaw56_JournalKeeps.j2 k2 l0 (Int.tmod (wrap64 (a1)) (wrap64 ((x290001_2.size : Int) + 1))) (!t316) t299 t300)) = some r := H
                          have A62 := Aside0.mk A620
                          clear A620
                          replace H := Option.bind_eq_some_iff.mp H
                          obtain ⟨t316, A630, H⟩ := H
                          replace H : (ancepslaw56_JournalKeeps.j2 k2 l0 (Int.tmod (wrap64 (a1)) (wrap64 ((x290001_2.size : Int) + 1))) (!t316) t299 t300) = some r := H
                          have A63 := Aside0.mk A630
                          clear A630
                          have H' := Aside0.mk H
                          clear H
                          have hnb64 := NB298_289.out
                          have hnc64 := NB289_298.out
                          have hnb65 := NB298_302.out
                          have hnc65 := NB302_298.out
                          have hnb66 := NB298_308.out
                          have hnc66 := NB308_298.out
                          have hcz67_0 : w51.cell? ⟨gb298, 0, none⟩ = some (.string t295) := (blk_cell BK298.out 0).trans rfl
                          have hcz67_1 : w51.cell? ⟨gb298, 1, none⟩ = some (.string t296) := (blk_cell BK298.out 1).trans rfl
                          have hfz67_0 := blk_frozen BK298.out 0
                          have hfz67_1 := blk_frozen BK298.out 1
                          go_wp2_with (first | (go_at_call 25; (with_reducible refine (journal_Read.calls k2 t295 t296 t309 _ A59.out).mono ?_); rintro e w68 ⟨v310, rfl, ho0, hb⟩; have n0_ := Aside0.mk (Kd.R_lower ho0 (below_size (by repeat (first | (with_reducible first | exact HB.out | apply below_alloc | apply pw_below_drewN | apply below_drew1 | refine below_set ?_ GE289.out | refine below_set ?_ GE298.out | refine below_set ?_ GE302.out | refine below_set ?_ GE308.out) | exact HB.out)))); have n1_ := Aside0.mk (blk_below (g := gb289) (o := .cells #[.string x290000_2, .string x290001_2] 33 (0, 0)) (by (with_reducible repeat (first | refine blk_drewN ?_ _ | refine blk_drew ?_ | refine blk_alloc ?_ _)); refine blk_far ?_ NB289_308.out _; (with_reducible repeat (first | refine blk_drewN ?_ _ | refine blk_drew ?_ | refine blk_alloc ?_ _)); refine blk_far ?_ NB289_308.out _; (with_reducible repeat (first | refine blk_drewN ?_ _ | refine blk_drew ?_ | refine blk_alloc ?_ _)); exact BK289.out) hb); have n2_ := Aside0.mk (blk_below (g := gb298) (o := .cells #[.string t295, .string t296] 33 (0, 0)) (by (with_reducible repeat (first | refine blk_drewN ?_ _ | refine blk_drew ?_ | refine blk_alloc ?_ _)); refine blk_far ?_ NB298_308.out _; (with_reducible repeat (first | refine blk_drewN ?_ _ | refine blk_drew ?_ | refine blk_alloc ?_ _)); refine blk_far ?_ NB298_308.out _; (with_reducible repeat (first | refine blk_drewN ?_ _ | refine blk_drew ?_ | refine blk_alloc ?_ _)); exact BK298.out) hb); have n3_ := Aside0.mk (blk_below (g := gb302) (o := .cells #[.string t299, .string t300] 33 (0, 0)) (by (with_reducible repeat (first | refine blk_drewN ?_ _ | refine blk_drew ?_ | refine blk_alloc ?_ _)); refine blk_far ?_ NB302_308.out _; (with_reducible repeat (first | refine blk_drewN ?_ _ | refine blk_drew ?_ | refine blk_alloc ?_ _)); refine blk_far ?_ NB302_308.out _; (with_reducible repeat (first | refine blk_drewN ?_ _ | refine blk_drew ?_ | refine blk_alloc ?_ _)); exact BK302.out) hb); have n4_ := Aside0.mk (blk_below (g := gb308) (o := .cells #[.string t305, .string t306] 33 (0, 0)) (by (with_reducible repeat (first | refine blk_drewN ?_ _ | refine blk_drew ?_ | refine blk_alloc ?_ _)); refine blk_put (cs := #[.string t305, .string (⟨#[]⟩ : ByteArray)]) ?_ 1 _ rfl; (with_reducible repeat (first | refine blk_drewN ?_ _ | refine blk_drew ?_ | refine blk_alloc ?_ _)); refine blk_put (cs := #[.string (⟨#[]⟩ : ByteArray), .string (⟨#[]⟩ : ByteArray)]) ?_ 0 _ rfl; (with_reducible repeat (first | refine blk_drewN ?_ _ | refine blk_drew ?_ | refine blk_alloc ?_ _)); exact BK308.out) hb); have n5_ := Aside0.mk (below_step (by repeat (first | (with_reducible first | exact HB.out | apply below_alloc | apply pw_below_drewN | apply below_drew1 | refine below_set ?_ GE289.out | refine below_set ?_ GE298.out | refine below_set ?_ GE302.out | refine below_set ?_ GE308.out) | exact HB.out)) hb); clear BK289; clear BK298; clear BK302; clear BK308; clear HB; have HO311 := n0_; have BK289 := n1_; have BK298 := n2_; have BK302 := n3_; have BK308 := n4_; have HB := n5_; clear n0_ n1_ n2_ n3_ n4_ n5_; (try clear hb); (try clear hb2); (try clear hk); (try clear hi); (try clear ho0); obtain ⟨Ao69, co69, eo69⟩ := Kd.R_slice HO311.out; subst eo69) | (go_at_call 19; (with_reducible refine (ancepsref56_Same.calls k2 _ _ t309 _ _ l0 true _ ?side1 ?side2 ?side3 ?side4 A60.out).mono ?_); (case side1 => repeat (first | exact (Kd.R_reads' HO311.out).2.2 | (with_reducible refine Kd.C_alloc ?_ _) | (with_reducible refine Kd.C_drewN ?_ _) | (with_reducible refine Kd.C_drew ?_))); (case side2 => exact (Kd.R_reads' HO311.out).2.1); (case side3 => repeat (first | exact (Kd.C_below HR0.out HB.out) | (with_reducible refine Kd.C_alloc ?_ _) | (with_reducible refine Kd.C_drewN ?_ _) | (with_reducible refine Kd.C_drew ?_))); (case side4 => exact HC0.out); rintro e w' ⟨rfl, ⟨nd, rfl⟩⟩; have hnb70 := NB308_289.out; have hnc70 := NB289_308.out; have hnb71 := NB308_302.out; have hnc71 := NB302_308.out; have hcz72_0 : w68.cell? ⟨gb308, 0, none⟩ = some (.string t305) := (blk_cell BK308.out 0).trans rfl; have hcz72_1 : w68.cell? ⟨gb308, 1, none⟩ = some (.string t306) := (blk_cell BK308.out 1).trans rfl; have hfz72_0 := blk_frozen BK308.out 0; have hfz72_1 := blk_frozen BK308.out 1) | (go_at_call 25; (with_reducible refine (journal_Read.calls k2 t305 t306 t313 _ A62.out).mono ?_); rintro e w73 ⟨v314, rfl, ho0, hb⟩; have n0_ := Aside0.mk (Kd.R_elder' (by (with_reducible repeat (first | apply Kd.R_alloc | apply Kd.R_drewN | apply Kd.R_drew)); exact HO311.out) (Kd.R_base ho0) hb); have n1_ := Aside0.mk (Kd.R_lower (Kd.R_new' ho0 (Kd.R_lt (by (with_reducible repeat (first | apply Kd.R_alloc | apply Kd.R_drewN | apply Kd.R_drew)); exact HO311.out))) (below_size (by repeat (first | (with_reducible first | exact HB.out | apply below_alloc | apply pw_below_drewN | apply below_drew1 | refine below_set ?_ GE289.out | refine below_set ?_ GE298.out | refine below_set ?_ GE302.out | refine below_set ?_ GE308.out) | exact HB.out)))); have n2_ := Aside0.mk (blk_below (g := gb289) (o := .cells #[.string x290000_2, .string x290001_2] 33 (0, 0)) (by (with_reducible repeat (first | refine blk_drewN ?_ _ | refine blk_drew ?_ | refine blk_alloc ?_ _)); exact BK289.out) hb); have n3_ := Aside0.mk (blk_below (g := gb298) (o := .cells #[.string t295, .string t296] 33 (0, 0)) (by (with_reducible repeat (first | refine blk_drewN ?_ _ | refine blk_drew ?_ | refine blk_alloc ?_ _)); exact BK298.out) hb); have n4_ := Aside0.mk (blk_below (g := gb302) (o := .cells #[.string t299, .string t300] 33 (0, 0)) (by (with_reducible repeat (first | refine blk_drewN ?_ _ | refine blk_drew ?_ | refine blk_alloc ?_ _)); exact BK302.out) hb); have n5_ := Aside0.mk (blk_below (g := gb308) (o := .cells #[.string t305, .string t306] 33 (0, 0)) (by (with_reducible repeat (first | refine blk_drewN ?_ _ | refine blk_drew ?_ | refine blk_alloc ?_ _)); exact BK308.out) hb); have n6_ := Aside0.mk (below_step (by repeat (first | (with_reducible first | exact HB.out | apply below_alloc | apply pw_below_drewN | apply below_drew1 | refine below_set ?_ GE289.out | refine below_set ?_ GE298.out | refine below_set ?_ GE302.out | refine below_set ?_ GE308.out) | exact HB.out)) hb); clear HO311; clear BK289; clear BK298; clear BK302; clear BK308; clear HB; have HO311 := n0_; have HO315 := n1_; have BK289 := n2_; have BK298 := n3_; have BK302 := n4_; have BK308 := n5_; have HB := n6_; clear n0_ n1_ n2_ n3_ n4_ n5_ n6_; (try clear hb); (try clear hb2); (try clear hk); (try clear hi); (try clear ho0); obtain ⟨Ao74, co74, eo74⟩ := Kd.R_slice HO315.out; subst eo74) | (go_at_call 19; (with_reducible refine (ancepsref56_Same.calls k2 _ _ t313 _ _ l0 t316 _ ?side1 ?side2 ?side3 ?side4 A63.out).mono ?_); (case side1 => repeat (first | exact (Kd.R_reads' HO315.out).2.2 | (with_reducible refine Kd.C_alloc ?_ _) | (with_reducible refine Kd.C_drewN ?_ _) | (with_reducible refine Kd.C_drew ?_))); (case side2 => exact (Kd.R_reads' HO315.out).2.1); (case side3 => repeat (first | exact (Kd.C_below HR0.out HB.out) | (with_reducible refine Kd.C_alloc ?_ _) | (with_reducible refine Kd.C_drewN ?_ _) | (with_reducible refine Kd.C_drew ?_))); (case side4 => exact HC0.out); rintro e w' ⟨rfl, ⟨nd, rfl⟩⟩))
                          go_meet
                          case rel => exact ⟨_, (!t316), (by first | rfl | (simp; done) | (simp [*]; done)), H', ⟨by have := HJ2.out; have := HK2.out; first | omega | exact Nat.le_refl _⟩, ⟨by (with_reducible repeat (first | refine blk_drewN ?_ _ | refine blk_drew ?_ | refine blk_alloc ?_ _)); exact BK289.out⟩, ⟨by (with_reducible repeat (first | refine blk_drewN ?_ _ | refine blk_drew ?_ | refine blk_alloc ?_ _)); exact BK298.out⟩, ⟨by (with_reducible repeat (first | refine blk_drewN ?_ _ | refine blk_drew ?_ | refine blk_alloc ?_ _)); exact BK302.out⟩, ⟨by (with_reducible repeat (first | refine blk_drewN ?_ _ | refine blk_drew ?_ | refine blk_alloc ?_ _)); exact BK308.out⟩, ⟨by repeat (first | (with_reducible first | exact HB.out | apply below_alloc | apply pw_below_drewN | apply below_drew1 | refine below_set ?_ GE289.out | refine below_set ?_ GE298.out | refine below_set ?_ GE302.out | refine below_set ?_ GE308.out) | exact HB.out)⟩⟩
                        · replace c61 := Bool.eq_false_iff.mpr c61
                          subst c61
                          have H1 : (ancepslaw56_JournalKeeps.j2 k2 l0 (Int.tmod (wrap64 (a1)) (wrap64 ((x290001_2.size : Int) + 1))) true t299 t300) = some r := by rw [if_neg (show ¬ (false = true) by decide)] at H; exact H
                          clear H
                          have H := H1
                          clear H1
                          have H' := Aside0.mk H
                          clear H
                          have hnb75 := NB298_289.out
                          have hnc75 := NB289_298.out
                          have hnb76 := NB298_302.out
                          have hnc76 := NB302_298.out
                          have hnb77 := NB298_308.out
                          have hnc77 := NB308_298.out
                          have hcz78_0 : w51.cell? ⟨gb298, 0, none⟩ = some (.string t295) := (blk_cell BK298.out 0).trans rfl
                          have hcz78_1 : w51.cell? ⟨gb298, 1, none⟩ = some (.string t296) := (blk_cell BK298.out 1).trans rfl
                          have hfz78_0 := blk_frozen BK298.out 0
                          have hfz78_1 := blk_frozen BK298.out 1
                          go_wp2_with (first | (go_at_call 25; (with_reducible refine (journal_Read.calls k2 t295 t296 t309 _ A59.out).mono ?_); rintro e w79 ⟨v310, rfl, ho0, hb⟩; have n0_ := Aside0.mk (Kd.R_lower ho0 (below_size (by repeat (first | (with_reducible first | exact HB.out | apply below_alloc | apply pw_below_drewN | apply below_drew1 | refine below_set ?_ GE289.out | refine below_set ?_ GE298.out | refine below_set ?_ GE302.out | refine below_set ?_ GE308.out) | exact HB.out)))); have n1_ := Aside0.mk (blk_below (g := gb289) (o := .cells #[.string x290000_2, .string x290001_2] 33 (0, 0)) (by (with_reducible repeat (first | refine blk_drewN ?_ _ | refine blk_drew ?_ | refine blk_alloc ?_ _)); refine blk_far ?_ NB289_308.out _; (with_reducible repeat (first | refine blk_drewN ?_ _ | refine blk_drew ?_ | refine blk_alloc ?_ _)); refine blk_far ?_ NB289_308.out _; (with_reducible repeat (first | refine blk_drewN ?_ _ | refine blk_drew ?_ | refine blk_alloc ?_ _)); exact BK289.out) hb); have n2_ := Aside0.mk (blk_below (g := gb298) (o := .cells #[.string t295, .string t296] 33 (0, 0)) (by (with_reducible repeat (first | refine blk_drewN ?_ _ | refine blk_drew ?_ | refine blk_alloc ?_ _)); refine blk_far ?_ NB298_308.out _; (with_reducible repeat (first | refine blk_drewN ?_ _ | refine blk_drew ?_ | refine blk_alloc ?_ _)); refine blk_far ?_ NB298_308.out _; (with_reducible repeat (first | refine blk_drewN ?_ _ | refine blk_drew ?_ | refine blk_alloc ?_ _)); exact BK298.out) hb); have n3_ := Aside0.mk (blk_below (g := gb302) (o := .cells #[.string t299, .string t300] 33 (0, 0)) (by (with_reducible repeat (first | refine blk_drewN ?_ _ | refine blk_drew ?_ | refine blk_alloc ?_ _)); refine blk_far ?_ NB302_308.out _; (with_reducible repeat (first | refine blk_drewN ?_ _ | refine blk_drew ?_ | refine blk_alloc ?_ _)); refine blk_far ?_ NB302_308.out _; (with_reducible repeat (first | refine blk_drewN ?_ _ | refine blk_drew ?_ | refine blk_alloc ?_ _)); exact BK302.out) hb); have n4_ := Aside0.mk (blk_below (g := gb308) (o := .cells #[.string t305, .string t306] 33 (0, 0)) (by (with_reducible repeat (first | refine blk_drewN ?_ _ | refine blk_drew ?_ | refine blk_alloc ?_ _)); refine blk_put (cs := #[.string t305, .string (⟨#[]⟩ : ByteArray)]) ?_ 1 _ rfl; (with_reducible repeat (first | refine blk_drewN ?_ _ | refine blk_drew ?_ | refine blk_alloc ?_ _)); refine blk_put (cs := #[.string (⟨#[]⟩ : ByteArray), .string (⟨#[]⟩ : ByteArray)]) ?_ 0 _ rfl; (with_reducible repeat (first | refine blk_drewN ?_ _ | refine blk_drew ?_ | refine blk_alloc ?_ _)); exact BK308.out) hb); have n5_ := Aside0.mk (below_step (by repeat (first | (with_reducible first | exact HB.out | apply below_alloc | apply pw_below_drewN | apply below_drew1 | refine below_set ?_ GE289.out | refine below_set ?_ GE298.out | refine below_set ?_ GE302.out | refine below_set ?_ GE308.out) | exact HB.out)) hb); clear BK289; clear BK298; clear BK302; clear BK308; clear HB; have HO311 := n0_; have BK289 := n1_; have BK298 := n2_; have BK302 := n3_; have BK308 := n4_; have HB := n5_; clear n0_ n1_ n2_ n3_ n4_ n5_; (try clear hb); (try clear hb2); (try clear hk); (try clear hi); (try clear ho0); obtain ⟨Ao80, co80, eo80⟩ := Kd.R_slice HO311.out; subst eo80) | (go_at_call 19; (with_reducible refine (ancepsref56_Same.calls k2 _ _ t309 _ _ l0 false _ ?side1 ?side2 ?side3 ?side4 A60.out).mono ?_); (case side1 => repeat (first | exact (Kd.R_reads' HO311.out).2.2 | (with_reducible refine Kd.C_alloc ?_ _) | (with_reducible refine Kd.C_drewN ?_ _) | (with_reducible refine Kd.C_drew ?_))); (case side2 => exact (Kd.R_reads' HO311.out).2.1); (case side3 => repeat (first | exact (Kd.C_below HR0.out HB.out) | (with_reducible refine Kd.C_alloc ?_ _) | (with_reducible refine Kd.C_drewN ?_ _) | (with_reducible refine Kd.C_drew ?_))); (case side4 => exact HC0.out); rintro e w' ⟨rfl, ⟨nd, rfl⟩⟩))
                          go_meet
                          case rel => exact ⟨_, (true), (by first | rfl | (simp; done) | (simp [*]; done)), H', ⟨by have := HJ2.out; have := HK2.out; first | omega | exact Nat.le_refl _⟩, ⟨by (with_reducible repeat (first | refine blk_drewN ?_ _ | refine blk_drew ?_ | refine blk_alloc ?_ _)); exact BK289.out⟩, ⟨by (with_reducible repeat (first | refine blk_drewN ?_ _ | refine blk_drew ?_ | refine blk_alloc ?_ _)); exact BK298.out⟩, ⟨by (with_reducible repeat (first | refine blk_drewN ?_ _ | refine blk_drew ?_ | refine blk_alloc ?_ _)); exact BK302.out⟩, ⟨by (with_reducible repeat (first | refine blk_drewN ?_ _ | refine blk_drew ?_ | refine blk_alloc ?_ _)); exact BK308.out⟩, ⟨by repeat (first | (with_reducible first | exact HB.out | apply below_alloc | apply pw_below_drewN | apply below_drew1 | refine below_set ?_ GE289.out | refine below_set ?_ GE298.out | refine below_set ?_ GE302.out | refine below_set ?_ GE308.out) | exact HB.out)⟩⟩
                      · rw [if_neg c58] at H
                        have c58b0 : (t307 == 0) = false := beq_eq_false_iff_ne.mpr c58
                        have c58b1 : (t307 != 0) = true := bne_iff_ne.mpr c58
                        have H' := Aside0.mk H
                        clear H
                        go_wp2
                        go_meet
                        case rel => exact ⟨_, (true), (by first | rfl | (simp; done) | (simp [*]; done)), H', ⟨by have := HJ2.out; have := HK2.out; first | omega | exact Nat.le_refl _⟩, ⟨by (with_reducible repeat (first | refine blk_drewN ?_ _ | refine blk_drew ?_ | refine blk_alloc ?_ _)); refine blk_far ?_ NB289_308.out _; (with_reducible repeat (first | refine blk_drewN ?_ _ | refine blk_drew ?_ | refine blk_alloc ?_ _)); refine blk_far ?_ NB289_308.out _; (with_reducible repeat (first | refine blk_drewN ?_ _ | refine blk_drew ?_ | refine blk_alloc ?_ _)); exact BK289.out⟩, ⟨by (with_reducible repeat (first | refine blk_drewN ?_ _ | refine blk_drew ?_ | refine blk_alloc ?_ _)); refine blk_far ?_ NB298_308.out _; (with_reducible repeat (first | refine blk_drewN ?_ _ | refine blk_drew ?_ | refine blk_alloc ?_ _)); refine blk_far ?_ NB298_308.out _; (with_reducible repeat (first | refine blk_drewN ?_ _ | refine blk_drew ?_ | refine blk_alloc ?_ _)); exact BK298.out⟩, ⟨by (with_reducible repeat (first | refine blk_drewN ?_ _ | refine blk_drew ?_ | refine blk_alloc ?_ _)); refine blk_far ?_ NB302_308.out _; (with_reducible repeat (first | refine blk_drewN ?_ _ | refine blk_drew ?_ | refine blk_alloc ?_ _)); refine blk_far ?_ NB302_308.out _; (with_reducible repeat (first | refine blk_drewN ?_ _ | refine blk_drew ?_ | refine blk_alloc ?_ _)); exact BK302.out⟩, ⟨by (with_reducible repeat (first | refine blk_drewN ?_ _ | refine blk_drew ?_ | refine blk_alloc ?_ _)); refine blk_put (cs := #[.string t305, .string (⟨#[]⟩ : ByteArray)]) ?_ 1 _ rfl; (with_reducible repeat (first | refine blk_drewN ?_ _ | refine blk_drew ?_ | refine blk_alloc ?_ _)); refine blk_put (cs := #[.string (⟨#[]⟩ : ByteArray), .string (⟨#[]⟩ : ByteArray)]) ?_ 0 _ rfl; (with_reducible repeat (first | refine blk_drewN ?_ _ | refine blk_drew ?_ | refine blk_alloc ?_ _)); exact BK308.out⟩, ⟨by repeat (first | (with_reducible first | exact HB.out | apply below_alloc | apply pw_below_drewN | apply below_drew1 | refine below_set ?_ GE289.out | refine below_set ?_ GE298.out | refine below_set ?_ GE302.out | refine below_set ?_ GE308.out) | exact HB.out)⟩⟩
                    · rw [if_neg c57] at H
                      have c57b0 : (t301 == 0) = false := beq_eq_false_iff_ne.mpr c57
                      have c57b1 : (t301 != 0) = true := bne_iff_ne.mpr c57
                      have H' := Aside0.mk H
                      clear H
                      go_wp2
                      go_meet
                      case rel => exact ⟨_, (true), (by first | rfl | (simp; done) | (simp [*]; done)), H', ⟨by have := HJ2.out; have := HK2.out; first | omega | exact Nat.le_refl _⟩, ⟨by (with_reducible repeat (first | refine blk_drewN ?_ _ | refine blk_drew ?_ | refine blk_alloc ?_ _)); refine blk_far ?_ NB289_308.out _; (with_reducible repeat (first | refine blk_drewN ?_ _ | refine blk_drew ?_ | refine blk_alloc ?_ _)); refine blk_far ?_ NB289_308.out _; (with_reducible repeat (first | refine blk_drewN ?_ _ | refine blk_drew ?_ | refine blk_alloc ?_ _)); exact BK289.out⟩, ⟨by (with_reducible repeat (first | refine blk_drewN ?_ _ | refine blk_drew ?_ | refine blk_alloc ?_ _)); refine blk_far ?_ NB298_308.out _; (with_reducible repeat (first | refine blk_drewN ?_ _ | refine blk_drew ?_ | refine blk_alloc ?_ _)); refine blk_far ?_ NB298_308.out _; (with_reducible repeat (first | refine blk_drewN ?_ _ | refine blk_drew ?_ | refine blk_alloc ?_ _)); exact BK298.out⟩, ⟨by (with_reducible repeat (first | refine blk_drewN ?_ _ | refine blk_drew ?_ | refine blk_alloc ?_ _)); refine blk_far ?_ NB302_308.out _; (with_reducible repeat (first | refine blk_drewN ?_ _ | refine blk_drew ?_ | refine blk_alloc ?_ _)); refine blk_far ?_ NB302_308.out _; (with_reducible repeat (first | refine blk_drewN ?_ _ | refine blk_drew ?_ | refine blk_alloc ?_ _)); exact BK302.out⟩, ⟨by (with_reducible repeat (first | refine blk_drewN ?_ _ | refine blk_drew ?_ | refine blk_alloc ?_ _)); refine blk_put (cs := #[.string t305, .string (⟨#[]⟩ : ByteArray)]) ?_ 1 _ rfl; (with_reducible repeat (first | refine blk_drewN ?_ _ | refine blk_drew ?_ | refine blk_alloc ?_ _)); refine blk_put (cs := #[.string (⟨#[]⟩ : ByteArray), .string (⟨#[]⟩ : ByteArray)]) ?_ 0 _ rfl; (with_reducible repeat (first | refine blk_drewN ?_ _ | refine blk_drew ?_ | refine blk_alloc ?_ _)); exact BK308.out⟩, ⟨by repeat (first | (with_reducible first | exact HB.out | apply below_alloc | apply pw_below_drewN | apply below_drew1 | refine below_set ?_ GE289.out | refine below_set ?_ GE298.out | refine below_set ?_ GE302.out | refine below_set ?_ GE308.out) | exact HB.out)⟩⟩
                  · rw [if_neg c56] at H
                    have c56b0 : (t297 == 0) = false := beq_eq_false_iff_ne.mpr c56
                    have c56b1 : (t297 != 0) = true := bne_iff_ne.mpr c56
                    (first | rw [c56b0] | (simp only [i64_w, i32_w]; rw [c56b0]) | skip)
                    have H' := Aside0.mk H
                    clear H
                    go_wp2
                    go_meet
                    case rel => exact ⟨_, (true), (by first | rfl | (simp; done) | (simp [*]; done)), H', ⟨by have := HJ2.out; have := HK2.out; first | omega | exact Nat.le_refl _⟩, ⟨by (with_reducible repeat (first | refine blk_drewN ?_ _ | refine blk_drew ?_ | refine blk_alloc ?_ _)); refine blk_far ?_ NB289_308.out _; (with_reducible repeat (first | refine blk_drewN ?_ _ | refine blk_drew ?_ | refine blk_alloc ?_ _)); refine blk_far ?_ NB289_308.out _; (with_reducible repeat (first | refine blk_drewN ?_ _ | refine blk_drew ?_ | refine blk_alloc ?_ _)); exact BK289.out⟩, ⟨by (with_reducible repeat (first | refine blk_drewN ?_ _ | refine blk_drew ?_ | refine blk_alloc ?_ _)); refine blk_far ?_ NB298_308.out _; (with_reducible repeat (first | refine blk_drewN ?_ _ | refine blk_drew ?_ | refine blk_alloc ?_ _)); refine blk_far ?_ NB298_308.out _; (with_reducible repeat (first | refine blk_drewN ?_ _ | refine blk_drew ?_ | refine blk_alloc ?_ _)); exact BK298.out⟩, ⟨by (with_reducible repeat (first | refine blk_drewN ?_ _ | refine blk_drew ?_ | refine blk_alloc ?_ _)); refine blk_far ?_ NB302_308.out _; (with_reducible repeat (first | refine blk_drewN ?_ _ | refine blk_drew ?_ | refine blk_alloc ?_ _)); refine blk_far ?_ NB302_308.out _; (with_reducible repeat (first | refine blk_drewN ?_ _ | refine blk_drew ?_ | refine blk_alloc ?_ _)); exact BK302.out⟩, ⟨by (with_reducible repeat (first | refine blk_drewN ?_ _ | refine blk_drew ?_ | refine blk_alloc ?_ _)); refine blk_put (cs := #[.string t305, .string (⟨#[]⟩ : ByteArray)]) ?_ 1 _ rfl; (with_reducible repeat (first | refine blk_drewN ?_ _ | refine blk_drew ?_ | refine blk_alloc ?_ _)); refine blk_put (cs := #[.string (⟨#[]⟩ : ByteArray), .string (⟨#[]⟩ : ByteArray)]) ?_ 0 _ rfl; (with_reducible repeat (first | refine blk_drewN ?_ _ | refine blk_drew ?_ | refine blk_alloc ?_ _)); exact BK308.out⟩, ⟨by repeat (first | (with_reducible first | exact HB.out | apply below_alloc | apply pw_below_drewN | apply below_drew1 | refine below_set ?_ GE289.out | refine below_set ?_ GE298.out | refine below_set ?_ GE302.out | refine below_set ?_ GE308.out) | exact HB.out)⟩⟩
                case rest =>
                  clear HC36
                  try clear c1
                  try clear c2
                  try clear p2
                  try clear q2
                  try clear hx2
                  try clear c3
                  try clear c4
                  try clear c5
                  try clear c6
                  try clear p6
                  try clear c7
                  try clear c8
                  try clear c11
                  try clear c15
                  try clear c15b0
                  try clear c16
                  try clear c16b0
                  try clear c17
                  try clear c17b0
                  try clear c19
                  try clear c19b0
                  try clear c19b1
                  try clear c21
                  try clear c23
                  try clear c27
                  try clear c29
                  try clear p29
                  try clear q29
                  try clear hx29
                  try clear c30
                  try clear c32
                  try clear c32b0
                  try clear c32b1
                  try clear c40
                  try clear c45
                  try clear c46
                  try clear c52
                  try clear c53
                  try clear c54
                  try clear c56
                  try clear c56b0
                  try clear c56b1
                  try clear c57
                  try clear c57b0
                  try clear c57b1
                  try clear c58
                  try clear c58b0
                  try clear c58b1
                  try clear c61
                  try clear c64
                  try clear p64
                  try clear c65
                  try clear c66
                  try clear c70
                  try clear c71
                  try clear c75
                  try clear c76
                  try clear c77
                  try clear hcz14_0
                  try clear hcz14_1
                  try clear hcz20_0
                  try clear hcz20_1
                  try clear hcz24_0
                  try clear hcz24_1
                  try clear hcz25_0
                  try clear hcz25_1
                  try clear hcz26_0
                  try clear hcz26_1
                  try clear hcz30_0
                  try clear hcz30_1
                  try clear hcz37_0
                  try clear hcz37_1
                  try clear hcz41_0
                  try clear hcz41_1
                  try clear hcz42_0
                  try clear hcz42_1
                  try clear hcz47_0
                  try clear hcz47_1
                  try clear hcz48_0
                  try clear hcz48_1
                  try clear hcz55_0
                  try clear hcz55_1
                  try clear hcz67_0
                  try clear hcz67_1
                  try clear hcz72_0
                  try clear hcz72_1
                  try clear hcz78_0
                  try clear hcz78_1
                  try clear hfz14_0
                  try clear hfz14_1
                  try clear hfz20_0
                  try clear hfz20_1
                  try clear hfz24_0
                  try clear hfz24_1
                  try clear hfz25_0
                  try clear hfz25_1
                  try clear hfz26_0
                  try clear hfz26_1
                  try clear hfz30_0
                  try clear hfz30_1
                  try clear hfz37_0
                  try clear hfz37_1
                  try clear hfz41_0
                  try clear hfz41_1
                  try clear hfz42_0
                  try clear hfz42_1
                  try clear hfz47_0
                  try clear hfz47_1
                  try clear hfz48_0
                  try clear hfz48_1
                  try clear hfz55_0
                  try clear hfz55_1
                  try clear hfz67_0
                  try clear hfz67_1
                  try clear hfz72_0
                  try clear hfz72_1
                  try clear hfz78_0
                  try clear hfz78_1
                  try clear hx290_0
                  try clear p2
                  try clear p290
                  try clear p6
                  try clear q290
                  obtain ⟨kq, x97_35, rfl, HA, HJ35, BK289, BK298, BK302, BK308, HB⟩ := hcut
                  cases kq with
                  | zero => exact absurd HA.out (by simp [ancepslaw56_JournalKeeps.j2])
                  | succ kj35 =>
                    have H := HA.out
                    clear HA
                    simp only [ancepslaw56_JournalKeeps.j2] at H
                    by_cases c81 : x97_35 = true
                    · subst c81
                      have H1 : (some false) = some r := by rw [if_pos rfl] at H; exact H
                      clear H
                      have H := H1
                      clear H1
                      obtain rfl := Option.some.inj H
                      go_wp2
                      go_ret
                      exact ⟨by first | rfl | (simp [errW_none, errW_some] <;> rfl) | (simp [*, errW_none, errW_some] <;> rfl), by repeat (first | (with_reducible first | exact HB.out | apply below_alloc | apply pw_below_drewN | apply below_drew1 | refine below_set ?_ GE289.out | refine below_set ?_ GE298.out | refine below_set ?_ GE302.out | refine below_set ?_ GE308.out) | exact HB.out)⟩
                    · replace c81 := Bool.eq_false_iff.mpr c81
                      subst c81
                      have H1 : (ancepslaw56_JournalKeeps.l1 kj35 l0 (Int.tmod (wrap64 (a1)) (wrap64 ((x290001_2.size : Int) + 1))) 0 0 t299 t300) = some r := by rw [if_neg (show ¬ (false = true) by decide)] at H; exact H
                      clear H
                      have H := H1
                      clear H1
                      have H' := Aside0.mk H
                      clear H
                      go_wp2
                      go_loopg [17, 18] kj35 (fun kq v17 v18 w' => ∃ (x17_4 : Int) (x18_4 : Int), v17 = .int .i64 x17_4 ∧ v18 = .int .i64 x18_4 ∧ Aside0 (ancepslaw56_JournalKeeps.l1 kq l0 (Int.tmod (wrap64 (a1)) (wrap64 ((x290001_2.size : Int) + 1))) x17_4 x18_4 t299 t300 = some r) ∧ Aside0 (kq ≤ kj35) ∧ Aside0 (w'.heap[gb289]? = some (.cells #[.string x290000_2, .string x290001_2] 33 (0, 0))) ∧ Aside0 (w'.heap[gb298]? = some (.cells #[.string t295, .string t296] 33 (0, 0))) ∧ Aside0 (w'.heap[gb302]? = some (.cells #[.string t299, .string t300] 33 (0, 0))) ∧ Aside0 (w'.heap[gb308]? = some (.cells #[.string t305, .string t306] 33 (0, 0))) ∧ Aside0 (Below w.heap.size w w'))
                      case atStart => exact ⟨(0), (0), (by first | rfl | (simp; done) | (simp [*]; done)), (by first | rfl | (simp; done) | (simp [*]; done)), H', ⟨Nat.le_refl _⟩, ⟨by (with_reducible repeat (first | refine blk_drewN ?_ _ | refine blk_drew ?_ | refine blk_alloc ?_ _)); exact BK289.out⟩, ⟨by (with_reducible repeat (first | refine blk_drewN ?_ _ | refine blk_drew ?_ | refine blk_alloc ?_ _)); exact BK298.out⟩, ⟨by (with_reducible repeat (first | refine blk_drewN ?_ _ | refine blk_drew ?_ | refine blk_alloc ?_ _)); exact BK302.out⟩, ⟨by (with_reducible repeat (first | refine blk_drewN ?_ _ | refine blk_drew ?_ | refine blk_alloc ?_ _)); exact BK308.out⟩, ⟨by repeat (first | (with_reducible first | exact HB.out | apply below_alloc | apply pw_below_drewN | apply below_drew1 | refine below_set ?_ GE289.out | refine below_set ?_ GE298.out | refine below_set ?_ GE302.out | refine below_set ?_ GE308.out) | exact HB.out)⟩⟩
                      case round =>
                        clear H'
                        try clear c1
                        try clear c2
                        try clear p2
                        try clear q2
                        try clear hx2
                        try clear c3
                        try clear c4
                        try clear c5
                        try clear c6
                        try clear p6
                        try clear c7
                        try clear c8
                        try clear c11
                        try clear c15
                        try clear c15b0
                        try clear c16
                        try clear c16b0
                        try clear c17
                        try clear c17b0
                        try clear c19
                        try clear c19b0
                        try clear c19b1
                        try clear c21
                        try clear c23
                        try clear c27
                        try clear c29
                        try clear p29
                        try clear q29
                        try clear hx29
                        try clear c30
                        try clear c32
                        try clear c32b0
                        try clear c32b1
                        try clear c40
                        try clear c45
                        try clear c46
                        try clear c52
                        try clear c53
                        try clear c54
                        try clear c56
                        try clear c56b0
                        try clear c56b1
                        try clear c57
                        try clear c57b0
                        try clear c57b1
                        try clear c58
                        try clear c58b0
                        try clear c58b1
                        try clear c61
                        try clear c64
                        try clear p64
                        try clear c65
                        try clear c66
                        try clear c70
                        try clear c71
                        try clear c75
                        try clear c76
                        try clear c77
                        try clear c81
                        try clear hcz14_0
                        try clear hcz14_1
                        try clear hcz20_0
                        try clear hcz20_1
                        try clear hcz24_0
                        try clear hcz24_1
                        try clear hcz25_0
                        try clear hcz25_1
                        try clear hcz26_0
                        try clear hcz26_1
                        try clear hcz30_0
                        try clear hcz30_1
                        try clear hcz37_0
                        try clear hcz37_1
                        try clear hcz41_0
                        try clear hcz41_1
                        try clear hcz42_0
                        try clear hcz42_1
                        try clear hcz47_0
                        try clear hcz47_1
                        try clear hcz48_0
                        try clear hcz48_1
                        try clear hcz55_0
                        try clear hcz55_1
                        try clear hcz67_0
                        try clear hcz67_1
                        try clear hcz72_0
                        try clear hcz72_1
                        try clear hcz78_0
                        try clear hcz78_1
                        try clear hfz14_0
                        try clear hfz14_1
                        try clear hfz20_0
                        try clear hfz20_1
                        try clear hfz24_0
                        try clear hfz24_1
                        try clear hfz25_0
                        try clear hfz25_1
                        try clear hfz26_0
                        try clear hfz26_1
                        try clear hfz30_0
                        try clear hfz30_1
                        try clear hfz37_0
                        try clear hfz37_1
                        try clear hfz41_0
                        try clear hfz41_1
                        try clear hfz42_0
                        try clear hfz42_1
                        try clear hfz47_0
                        try clear hfz47_1
                        try clear hfz48_0
                        try clear hfz48_1
                        try clear hfz55_0
                        try clear hfz55_1
                        try clear hfz67_0
                        try clear hfz67_1
                        try clear hfz72_0
                        try clear hfz72_1
                        try clear hfz78_0
                        try clear hfz78_1
                        try clear hx290_0
                        try clear p2
                        try clear p29
                        try clear p290
                        try clear p6
                        try clear p64
                        try clear q2
                        try clear q29
                        try clear q290
                        obtain ⟨x17_4, x18_4, rfl, rfl, HA, HK4, BK289, BK298, BK302, BK308, HB⟩ := hrel
                        cases gk with
                        | zero => exact absurd HA.out (by simp [ancepslaw56_JournalKeeps.l1])
                        | succ k4 =>
                          have H := HA.out
                          clear HA
                          simp only [ancepslaw56_JournalKeeps.l1] at H
                          by_cases c82 : x17_4 < (l0.length : Int)
                          · rw [if_pos c82] at H
                            have c82b0 : decide (x17_4 < (l0.length : Int)) = true := decide_eq_true c82
                            clear c82
                            by_cases c83 : 0 ≤ x17_4
                            · rw [if_pos c83] at H
                              have c83b0 : decide (0 ≤ x17_4) = true := decide_eq_true c83
                              clear c83
                              by_cases c84 : (wrap64 ((wrap64 (x18_4 + 8)) + ((rdOf ByteArray.empty l0 x17_4).size : Int))) ≤ (Int.tmod (wrap64 (a1)) (wrap64 ((x290001_2.size : Int) + 1)))
                              · rw [if_pos c84] at H
                                have c84b0 : decide ((wrap64 ((wrap64 (x18_4 + 8)) + ((rdOf ByteArray.empty l0 x17_4).size : Int))) ≤ (Int.tmod (wrap64 (a1)) (wrap64 ((x290001_2.size : Int) + 1)))) = true := decide_eq_true c84
                                clear c84
                                have H' := Aside0.mk H
                                clear H
                                have p317 : 0 ≤ (x17_4 : Int) := of_decide_eq_true (by first | (with_reducible assumption) | assumption)
                                have q317 : x17_4 < (l0.length : Int) := of_decide_eq_true (by first | (with_reducible assumption) | assumption)
                                obtain ⟨ad317, e317, hx317_0⟩ := Kd.at_string HR0.out x17_4 p317 q317
                                cases e317
                                replace hx317_0 := (HB.out.cell (World.block_lt_of_cell? w _ hx317_0)).trans hx317_0
                                replace p317 := eq_true p317
                                replace q317 := eq_true q317
                                have p318 : 0 ≤ (x17_4 : Int) := of_decide_eq_true (by first | (with_reducible assumption) | assumption)
                                have q318 : x17_4 < (l0.length : Int) := of_decide_eq_true (by first | (with_reducible assumption) | assumption)
                                obtain ⟨ad318, e318, hx318_0⟩ := Kd.at_string HR0.out x17_4 p318 q318
                                obtain rfl : ad317 = ad318 := (by injection e318)
                                replace hx318_0 := (HB.out.cell (World.block_lt_of_cell? w _ hx318_0)).trans hx318_0
                                replace p318 := eq_true p318
                                replace q318 := eq_true q318
                                go_wp2
                                go_roundg k4
                                case measure => have := HJ2.out; have := HK2.out; have := HJ35.out; have := HK4.out; omega
                                case rel => exact ⟨(wrap64 (x17_4 + 1)), (wrap64 (x18_4 + (wrap64 (8 + ((rdOf ByteArray.empty l0 x17_4).size : Int))))), (by first | rfl | (simp; done) | (simp [*]; done)), (by first | rfl | (simp; done) | (simp [*]; done)), H', ⟨by have := HJ2.out; have := HK2.out; have := HJ35.out; have := HK4.out; omega⟩, ⟨by (with_reducible repeat (first | refine blk_drewN ?_ _ | refine blk_drew ?_ | refine blk_alloc ?_ _)); exact BK289.out⟩, ⟨by (with_reducible repeat (first | refine blk_drewN ?_ _ | refine blk_drew ?_ | refine blk_alloc ?_ _)); exact BK298.out⟩, ⟨by (with_reducible repeat (first | refine blk_drewN ?_ _ | refine blk_drew ?_ | refine blk_alloc ?_ _)); exact BK302.out⟩, ⟨by (with_reducible repeat (first | refine blk_drewN ?_ _ | refine blk_drew ?_ | refine blk_alloc ?_ _)); exact BK308.out⟩, ⟨by repeat (first | (with_reducible first | exact HB.out | apply below_alloc | apply pw_below_drewN | apply below_drew1 | refine below_set ?_ GE289.out | refine below_set ?_ GE298.out | refine below_set ?_ GE302.out | refine below_set ?_ GE308.out) | exact HB.out)⟩⟩
                              · rw [if_neg c84] at H
                                have c84b0 : decide ((wrap64 ((wrap64 (x18_4 + 8)) + ((rdOf ByteArray.empty l0 x17_4).size : Int))) ≤ (Int.tmod (wrap64 (a1)) (wrap64 ((x290001_2.size : Int) + 1)))) = false := decide_eq_false c84
                                clear c84
                                replace H := Option.bind_eq_some_iff.mp H
                                obtain ⟨t319, A850, H⟩ := H
                                replace H : (if x17_4 ≤ (l0.length : Int) then ((ancepsref56_Same.f k4 t319 (l0.take (x17_4 : Int).toNat)).bind fun t323 => (some t323)) else (none)) = some r := H
                                have A85 := Aside0.mk A850
                                clear A850
                                have c86b0 := eq_true (of_decide_eq_true (by first | (with_reducible assumption) | assumption) : 0 ≤ x17_4)
                                by_cases c87 : x17_4 ≤ (l0.length : Int)
                                · rw [if_pos c87] at H
                                  have c87b0 := eq_true c87
                                  have c87b1 : decide (x17_4 ≤ (l0.length : Int)) = true := decide_eq_true c87
                                  clear c87
                                  replace H := Option.bind_eq_some_iff.mp H
                                  obtain ⟨t323, A880, H⟩ := H
                                  replace H : (some t323) = some r := H
                                  have A88 := Aside0.mk A880
                                  clear A880
                                  obtain rfl := Option.some.inj H
                                  have p317 : 0 ≤ (x17_4 : Int) := of_decide_eq_true (by first | (with_reducible assumption) | assumption)
                                  have q317 : x17_4 < (l0.length : Int) := of_decide_eq_true (by first | (with_reducible assumption) | assumption)
                                  obtain ⟨ad317, e317, hx317_0⟩ := Kd.at_string HR0.out x17_4 p317 q317
                                  cases e317
                                  replace hx317_0 := (HB.out.cell (World.block_lt_of_cell? w _ hx317_0)).trans hx317_0
                                  replace p317 := eq_true p317
                                  replace q317 := eq_true q317
                                  try go_wp2
                                  have n0_ := Aside0.mk (blk_drew BK289.out)
                                  have n1_ := Aside0.mk (blk_drew BK298.out)
                                  have n2_ := Aside0.mk (blk_drew BK302.out)
                                  have n3_ := Aside0.mk (blk_drew BK308.out)
                                  have n4_ := Aside0.mk (below_drew1 HB.out)
                                  clear BK289
                                  clear BK298
                                  clear BK302
                                  clear BK308
                                  clear HB
                                  have BK289 := n0_
                                  have BK298 := n1_
                                  have BK302 := n2_
                                  have BK308 := n3_
                                  have HB := n4_
                                  clear n0_ n1_ n2_ n3_ n4_
                                  obtain ⟨i090, hi090, _, hsz90, _⟩ := info_parts info9
                                  obtain ⟨hcut90, hA90, hC90⟩ := print_take_of (P := Try.prog) Value.string (⟨#[]⟩ : ByteArray) 27 9 .i64 Try.underlying27 hi090 hsz90 (some ad317) c0 l0 x17_4 (of_decide_eq_true (by first | (with_reducible assumption) | assumption)) (of_decide_eq_true (by first | (with_reducible assumption) | assumption)) HC0.out
                                  have HR322 := Aside0.mk (Kd.C_of_reads (h1 := fun _ => rfl) (hA90 _ (Kd.reads_of_C HR0.out)))
                                  have HC322 := Aside0.mk hC90
                                  clear hA90 hC90 hi090 hsz90
                                  refine start_ (n := 7) (S := fun w' => w'.cell? ⟨gb302, 0, none⟩ = some (.string t299) ∧ w'.cell? ⟨gb302, 1, none⟩ = some (.string t300)) (ds := []) #[false, false, false, false, false, false, false] (by kernel_rfl) rfl rfl ⟨(blk_cell BK302.out 0).trans rfl, (blk_cell BK302.out 1).trans rfl⟩ (fun hHeld => ?_)
                                  generalize wr.drew = w89 at BK289 BK298 BK302 BK308 HB HR322 hHeld ⊢
                                  refine pure_ (i := 2) (N := some 126) (v := ?_) (a' := ?_) #[false, false, true, false, false, false, false] rfl rfl (by kernel_rfl) (fun _ _ _ h => h) (Or.inl ⟨by rfl, ?_⟩) ?_ ?_
                                  rotate_left
                                  · intro w'
                                    go_simp
                                    with_reducible rfl
                                  rotate_left
                                  · simp only [Act.put, List.setIfInBounds_toArray, List.set_cons_zero, List.set_cons_succ, i64_w, i32_w]
                                    rfl
                                  refine pure_ (i := 3) (N := some 127) (v := ?_) (a' := ?_) #[false, false, true, true, false, false, false] rfl rfl (by kernel_rfl) (fun _ _ _ h => h) (Or.inl ⟨by rfl, ?_⟩) ?_ ?_
                                  rotate_left
                                  · intro w'
                                    go_simp
                                    with_reducible rfl
                                  rotate_left
                                  · simp only [Act.put, List.setIfInBounds_toArray, List.set_cons_zero, List.set_cons_succ, i64_w, i32_w]
                                    rfl
                                  refine pure_ (i := 4) (N := some 128) (v := ?_) (a' := ?_) #[false, false, true, true, true, false, false] rfl rfl (by kernel_rfl) (fun _ _ _ h => h) (Or.inl ⟨by rfl, ?_⟩) ?_ ?_
                                  rotate_left
                                  · intro w'
                                    go_simp
                                    with_reducible rfl
                                  rotate_left
                                  · simp only [Act.put, List.setIfInBounds_toArray, List.set_cons_zero, List.set_cons_succ, i64_w, i32_w]
                                    rfl
                                  refine take_ (i := 0) (N := some 124) (v := ?_) (a' := ?_) #[true, false, true, true, true, false, false] rfl rfl (by kernel_rfl) (fun _ _ _ h => h) (Or.inl ⟨by rfl, ?_⟩) hHeld ?_ ?_
                                  rotate_left
                                  · rintro w' ⟨s0, s1⟩
                                    go_simp
                                    with_reducible rfl
                                  rotate_left
                                  · simp only [Act.put, List.setIfInBounds_toArray, List.set_cons_zero, List.set_cons_succ, i64_w, i32_w]
                                    rfl
                                  refine one_ (i := 1) (N := some 125) #[true, true, true, true, true, false, false] rfl rfl (by kernel_rfl) (by decide) (fun K hK => ?_)
                                  refine goes_ Try.func25 (by kernel_rfl) rfl #[.agg #[.string t299, .string t300]] (by rfl) rfl rfl (by (try simp only [List.map_toArray, List.map_cons, List.map_nil]); first | done | rfl | (simp only [List.length_drop, List.length_take]; rfl)) ?_
                                  with_reducible refine (journal_Read.calls k4 t299 t300 t319 _ A85.out).mono ?_
                                  rintro e w91 ⟨v320, rfl, ho0, hb⟩
                                  refine ⟨_, rfl, ?_⟩
                                  have n0_ := Aside0.mk (Kd.R_lower ho0 (below_size (by repeat (first | (with_reducible first | exact HB.out | apply below_alloc | apply pw_below_drewN | apply below_drew1 | refine below_set ?_ GE289.out | refine below_set ?_ GE298.out | refine below_set ?_ GE302.out | refine below_set ?_ GE308.out) | exact HB.out))))
                                  have n1_ := Aside0.mk (blk_below (g := gb289) (o := .cells #[.string x290000_2, .string x290001_2] 33 (0, 0)) (by (with_reducible repeat (first | refine blk_drewN ?_ _ | refine blk_drew ?_ | refine blk_alloc ?_ _)); exact BK289.out) hb)
                                  have n2_ := Aside0.mk (blk_below (g := gb298) (o := .cells #[.string t295, .string t296] 33 (0, 0)) (by (with_reducible repeat (first | refine blk_drewN ?_ _ | refine blk_drew ?_ | refine blk_alloc ?_ _)); exact BK298.out) hb)
                                  have n3_ := Aside0.mk (blk_below (g := gb302) (o := .cells #[.string t299, .string t300] 33 (0, 0)) (by (with_reducible repeat (first | refine blk_drewN ?_ _ | refine blk_drew ?_ | refine blk_alloc ?_ _)); exact BK302.out) hb)
                                  have n4_ := Aside0.mk (blk_below (g := gb308) (o := .cells #[.string t305, .string t306] 33 (0, 0)) (by (with_reducible repeat (first | refine blk_drewN ?_ _ | refine blk_drew ?_ | refine blk_alloc ?_ _)); exact BK308.out) hb)
                                  have n5_ := Aside0.mk (below_step (by repeat (first | (with_reducible first | exact HB.out | apply below_alloc | apply pw_below_drewN | apply below_drew1 | refine below_set ?_ GE289.out | refine below_set ?_ GE298.out | refine below_set ?_ GE302.out | refine below_set ?_ GE308.out) | exact HB.out)) hb)
                                  clear BK289
                                  clear BK298
                                  clear BK302
                                  clear BK308
                                  clear HB
                                  have HO321 := n0_
                                  have BK289 := n1_
                                  have BK298 := n2_
                                  have BK302 := n3_
                                  have BK308 := n4_
                                  have HB := n5_
                                  clear n0_ n1_ n2_ n3_ n4_ n5_
                                  (try clear hb)
                                  (try clear hb2)
                                  (try clear hk)
                                  (try clear hi)
                                  (try clear ho0)
                                  obtain ⟨Ao92, co92, eo92⟩ := Kd.R_slice HO321.out
                                  (first | subst eo92 | (injection eo92 with f1_ f2_ f3_; have f4_ := f1_.symm; have f5_ := f3_.symm; clear f1_ f2_ f3_; subst f4_; subst f5_))
                                  refine hK.out _ _ ⟨(blk_cell BK302.out 0).trans rfl, (blk_cell BK302.out 1).trans rfl⟩ (fun hHeld => ?_)
                                  clear hK K
                                  refine norm_ (a' := ?_) ?_ ?_
                                  rotate_left
                                  · show Act.put _ (some 125) _ = _
                                    simp only [Act.put, List.setIfInBounds_toArray, List.set_cons_zero, List.set_cons_succ, i64_w, i32_w]
                                    rfl
                                  refine one_ (i := 5) (N := some 129) #[true, true, true, true, true, true, false] rfl rfl (by kernel_rfl) (by decide) (fun K hK => ?_)
                                  refine goes_ Try.func19 (by kernel_rfl) rfl #[.slice Ao92 t319.length co92, .slice (some ad317) (l0.take (x17_4 : Int).toNat).length c0] (by rfl) rfl rfl (by (try simp only [List.map_toArray, List.map_cons, List.map_nil]); first | done | (rw [show (l0.take (x17_4 : Int).toNat).length = x17_4.toNat from (by rw [List.length_take]; have h_ : (x17_4 : Int) ≤ (l0.length : Int) := of_decide_eq_true (by first | (with_reducible assumption) | assumption); omega)] <;> rfl) | rfl | (simp only [List.length_drop, List.length_take]; rfl)) ?_
                                  with_reducible refine (ancepsref56_Same.calls k4 _ _ t319 _ _ (l0.take (x17_4 : Int).toNat) t323 _ ?side1 ?side2 ?side3 ?side4 A88.out).mono ?_
                                  (case side1 => repeat (first | exact (Kd.R_reads' HO321.out).2.2 | (with_reducible refine Kd.C_alloc ?_ _) | (with_reducible refine Kd.C_drewN ?_ _) | (with_reducible refine Kd.C_drew ?_)))
                                  (case side2 => exact (Kd.R_reads' HO321.out).2.1)
                                  (case side3 => repeat (first | exact (Kd.C_below HR322.out HB.out) | (with_reducible refine Kd.C_alloc ?_ _) | (with_reducible refine Kd.C_drewN ?_ _) | (with_reducible refine Kd.C_drew ?_)))
                                  (case side4 => exact HC322.out)
                                  rintro e w' ⟨rfl, ⟨nd, rfl⟩⟩
                                  refine ⟨_, rfl, ?_⟩
                                  refine hK.out _ _ ⟨(blk_cell BK302.out 0).trans rfl, (blk_cell BK302.out 1).trans rfl⟩ (fun hHeld => ?_)
                                  clear hK K
                                  refine norm_ (a' := ?_) ?_ ?_
                                  rotate_left
                                  · show Act.put _ (some 129) _ = _
                                    simp only [Act.put, List.setIfInBounds_toArray, List.set_cons_zero, List.set_cons_succ, i64_w, i32_w]
                                    rfl
                                  refine pure_ (i := 6) (N := some 4) (v := ?_) (a' := ?_) #[true, true, true, true, true, true, true] rfl rfl (by kernel_rfl) (fun _ _ _ h => h) (Or.inl ⟨by rfl, ?_⟩) ?_ ?_
                                  rotate_left
                                  · intro w'
                                    go_simp
                                    with_reducible rfl
                                  rotate_left
                                  · simp only [Act.put, List.setIfInBounds_toArray, List.set_cons_zero, List.set_cons_succ, i64_w, i32_w]
                                    rfl
                                  refine done_ (by kernel_rfl) ?_
                                  try go_wp2
                                  go_ret
                                  exact ⟨by first | rfl | (simp [errW_none, errW_some] <;> rfl) | (simp [*, errW_none, errW_some] <;> rfl), by repeat (first | (with_reducible first | exact HB.out | apply below_alloc | apply pw_below_drewN | apply below_drew1 | refine below_set ?_ GE289.out | refine below_set ?_ GE298.out | refine below_set ?_ GE302.out | refine below_set ?_ GE308.out) | exact HB.out)⟩
                                · rw [if_neg c87] at H
                                  exact absurd H (by simp)
                            · rw [if_neg c83] at H
                              exact absurd H (by simp)
                          · rw [if_neg c82] at H
                            have c82b0 : decide (x17_4 < (l0.length : Int)) = false := decide_eq_false c82
                            clear c82
                            replace H := Option.bind_eq_some_iff.mp H
                            obtain ⟨t324, A930, H⟩ := H
                            replace H : (if 0 ≤ x17_4 then (if x17_4 ≤ (l0.length : Int) then ((ancepsref56_Same.f k4 t324 (l0.take (x17_4 : Int).toNat)).bind fun t328 => (some t328)) else (none)) else (none)) = some r := H
                            have A93 := Aside0.mk A930
                            clear A930
                            by_cases c94 : 0 ≤ x17_4
                            · rw [if_pos c94] at H
                              have c94b0 := eq_true c94
                              have c94b1 : decide (0 ≤ x17_4) = true := decide_eq_true c94
                              clear c94
                              by_cases c95 : x17_4 ≤ (l0.length : Int)
                              · rw [if_pos c95] at H
                                have c95b0 := eq_true c95
                                have c95b1 : decide (x17_4 ≤ (l0.length : Int)) = true := decide_eq_true c95
                                clear c95
                                replace H := Option.bind_eq_some_iff.mp H
                                obtain ⟨t328, A960, H⟩ := H
                                replace H : (some t328) = some r := H
                                have A96 := Aside0.mk A960
                                clear A960
                                obtain rfl := Option.some.inj H
                                try go_wp2
                                have n0_ := Aside0.mk (blk_drew BK289.out)
                                have n1_ := Aside0.mk (blk_drew BK298.out)
                                have n2_ := Aside0.mk (blk_drew BK302.out)
                                have n3_ := Aside0.mk (blk_drew BK308.out)
                                have n4_ := Aside0.mk (below_drew1 HB.out)
                                clear BK289
                                clear BK298
                                clear BK302
                                clear BK308
                                clear HB
                                have BK289 := n0_
                                have BK298 := n1_
                                have BK302 := n2_
                                have BK308 := n3_
                                have HB := n4_
                                clear n0_ n1_ n2_ n3_ n4_
                                obtain ⟨i098, hi098, _, hsz98, _⟩ := info_parts info9
                                obtain ⟨hcut98, hA98, hC98⟩ := print_take_of (P := Try.prog) Value.string (⟨#[]⟩ : ByteArray) 27 9 .i64 Try.underlying27 hi098 hsz98 A0 c0 l0 x17_4 (of_decide_eq_true (by first | (with_reducible assumption) | assumption)) (of_decide_eq_true (by first | (with_reducible assumption) | assumption)) HC0.out
                                have HR327 := Aside0.mk (Kd.C_of_reads (h1 := fun _ => rfl) (hA98 _ (Kd.reads_of_C HR0.out)))
                                have HC327 := Aside0.mk hC98
                                clear hA98 hC98 hi098 hsz98
                                refine start_ (n := 7) (S := fun w' => w'.cell? ⟨gb302, 0, none⟩ = some (.string t299) ∧ w'.cell? ⟨gb302, 1, none⟩ = some (.string t300)) (ds := []) #[false, false, false, false, false, false, false] (by kernel_rfl) rfl rfl ⟨(blk_cell BK302.out 0).trans rfl, (blk_cell BK302.out 1).trans rfl⟩ (fun hHeld => ?_)
                                generalize wr.drew = w97 at BK289 BK298 BK302 BK308 HB HR327 hHeld ⊢
                                refine pure_ (i := 2) (N := some 126) (v := ?_) (a' := ?_) #[false, false, true, false, false, false, false] rfl rfl (by kernel_rfl) (fun _ _ _ h => h) (Or.inl ⟨by rfl, ?_⟩) ?_ ?_
                                rotate_left
                                · intro w'
                                  go_simp
                                  with_reducible rfl
                                rotate_left
                                · simp only [Act.put, List.setIfInBounds_toArray, List.set_cons_zero, List.set_cons_succ, i64_w, i32_w]
                                  rfl
                                refine pure_ (i := 3) (N := some 127) (v := ?_) (a' := ?_) #[false, false, true, true, false, false, false] rfl rfl (by kernel_rfl) (fun _ _ _ h => h) (Or.inl ⟨by rfl, ?_⟩) ?_ ?_
                                rotate_left
                                · intro w'
                                  go_simp
                                  with_reducible rfl
                                rotate_left
                                · simp only [Act.put, List.setIfInBounds_toArray, List.set_cons_zero, List.set_cons_succ, i64_w, i32_w]
                                  rfl
                                refine pure_ (i := 4) (N := some 128) (v := ?_) (a' := ?_) #[false, false, true, true, true, false, false] rfl rfl (by kernel_rfl) (fun _ _ _ h => h) (Or.inl ⟨by rfl, ?_⟩) ?_ ?_
                                rotate_left
                                · intro w'
                                  go_simp
                                  with_reducible rfl
                                rotate_left
                                · simp only [Act.put, List.setIfInBounds_toArray, List.set_cons_zero, List.set_cons_succ, i64_w, i32_w]
                                  rfl
                                refine take_ (i := 0) (N := some 124) (v := ?_) (a' := ?_) #[true, false, true, true, true, false, false] rfl rfl (by kernel_rfl) (fun _ _ _ h => h) (Or.inl ⟨by rfl, ?_⟩) hHeld ?_ ?_
                                rotate_left
                                · rintro w' ⟨s0, s1⟩
                                  go_simp
                                  with_reducible rfl
                                rotate_left
                                · simp only [Act.put, List.setIfInBounds_toArray, List.set_cons_zero, List.set_cons_succ, i64_w, i32_w]
                                  rfl
                                refine one_ (i := 1) (N := some 125) #[true, true, true, true, true, false, false] rfl rfl (by kernel_rfl) (by decide) (fun K hK => ?_)
                                refine goes_ Try.func25 (by kernel_rfl) rfl #[.agg #[.string t299, .string t300]] (by rfl) rfl rfl (by (try simp only [List.map_toArray, List.map_cons, List.map_nil]); first | done | rfl | (simp only [List.length_drop, List.length_take]; rfl)) ?_
                                with_reducible refine (journal_Read.calls k4 t299 t300 t324 _ A93.out).mono ?_
                                rintro e w99 ⟨v325, rfl, ho0, hb⟩
                                refine ⟨_, rfl, ?_⟩
                                have n0_ := Aside0.mk (Kd.R_lower ho0 (below_size (by repeat (first | (with_reducible first | exact HB.out | apply below_alloc | apply pw_below_drewN | apply below_drew1 | refine below_set ?_ GE289.out | refine below_set ?_ GE298.out | refine below_set ?_ GE302.out | refine below_set ?_ GE308.out) | exact HB.out))))
                                have n1_ := Aside0.mk (blk_below (g := gb289) (o := .cells #[.string x290000_2, .string x290001_2] 33 (0, 0)) (by (with_reducible repeat (first | refine blk_drewN ?_ _ | refine blk_drew ?_ | refine blk_alloc ?_ _)); exact BK289.out) hb)
                                have n2_ := Aside0.mk (blk_below (g := gb298) (o := .cells #[.string t295, .string t296] 33 (0, 0)) (by (with_reducible repeat (first | refine blk_drewN ?_ _ | refine blk_drew ?_ | refine blk_alloc ?_ _)); exact BK298.out) hb)
                                have n3_ := Aside0.mk (blk_below (g := gb302) (o := .cells #[.string t299, .string t300] 33 (0, 0)) (by (with_reducible repeat (first | refine blk_drewN ?_ _ | refine blk_drew ?_ | refine blk_alloc ?_ _)); exact BK302.out) hb)
                                have n4_ := Aside0.mk (blk_below (g := gb308) (o := .cells #[.string t305, .string t306] 33 (0, 0)) (by (with_reducible repeat (first | refine blk_drewN ?_ _ | refine blk_drew ?_ | refine blk_alloc ?_ _)); exact BK308.out) hb)
                                have n5_ := Aside0.mk (below_step (by repeat (first | (with_reducible first | exact HB.out | apply below_alloc | apply pw_below_drewN | apply below_drew1 | refine below_set ?_ GE289.out | refine below_set ?_ GE298.out | refine below_set ?_ GE302.out | refine below_set ?_ GE308.out) | exact HB.out)) hb)
                                clear BK289
                                clear BK298
                                clear BK302
                                clear BK308
                                clear HB
                                have HO326 := n0_
                                have BK289 := n1_
                                have BK298 := n2_
                                have BK302 := n3_
                                have BK308 := n4_
                                have HB := n5_
                                clear n0_ n1_ n2_ n3_ n4_ n5_
                                (try clear hb)
                                (try clear hb2)
                                (try clear hk)
                                (try clear hi)
                                (try clear ho0)
                                obtain ⟨Ao100, co100, eo100⟩ := Kd.R_slice HO326.out
                                (first | subst eo100 | (injection eo100 with f1_ f2_ f3_; have f4_ := f1_.symm; have f5_ := f3_.symm; clear f1_ f2_ f3_; subst f4_; subst f5_))
                                refine hK.out _ _ ⟨(blk_cell BK302.out 0).trans rfl, (blk_cell BK302.out 1).trans rfl⟩ (fun hHeld => ?_)
                                clear hK K
                                refine norm_ (a' := ?_) ?_ ?_
                                rotate_left
                                · show Act.put _ (some 125) _ = _
                                  simp only [Act.put, List.setIfInBounds_toArray, List.set_cons_zero, List.set_cons_succ, i64_w, i32_w]
                                  rfl
                                refine one_ (i := 5) (N := some 129) #[true, true, true, true, true, true, false] rfl rfl (by kernel_rfl) (by decide) (fun K hK => ?_)
                                refine goes_ Try.func19 (by kernel_rfl) rfl #[.slice Ao100 t324.length co100, .slice A0 (l0.take (x17_4 : Int).toNat).length c0] (by rfl) rfl rfl (by (try simp only [List.map_toArray, List.map_cons, List.map_nil]); first | done | (rw [show (l0.take (x17_4 : Int).toNat).length = x17_4.toNat from (by rw [List.length_take]; have h_ : (x17_4 : Int) ≤ (l0.length : Int) := of_decide_eq_true (by first | (with_reducible assumption) | assumption); omega)] <;> rfl) | rfl | (simp only [List.length_drop, List.length_take]; rfl)) ?_
                                with_reducible refine (ancepsref56_Same.calls k4 _ _ t324 _ _ (l0.take (x17_4 : Int).toNat) t328 _ ?side1 ?side2 ?side3 ?side4 A96.out).mono ?_
                                (case side1 => repeat (first | exact (Kd.R_reads' HO326.out).2.2 | (with_reducible refine Kd.C_alloc ?_ _) | (with_reducible refine Kd.C_drewN ?_ _) | (with_reducible refine Kd.C_drew ?_)))
                                (case side2 => exact (Kd.R_reads' HO326.out).2.1)
                                (case side3 => repeat (first | exact (Kd.C_below HR327.out HB.out) | (with_reducible refine Kd.C_alloc ?_ _) | (with_reducible refine Kd.C_drewN ?_ _) | (with_reducible refine Kd.C_drew ?_)))
                                (case side4 => exact HC327.out)
                                rintro e w' ⟨rfl, ⟨nd, rfl⟩⟩
                                refine ⟨_, rfl, ?_⟩
                                refine hK.out _ _ ⟨(blk_cell BK302.out 0).trans rfl, (blk_cell BK302.out 1).trans rfl⟩ (fun hHeld => ?_)
                                clear hK K
                                refine norm_ (a' := ?_) ?_ ?_
                                rotate_left
                                · show Act.put _ (some 129) _ = _
                                  simp only [Act.put, List.setIfInBounds_toArray, List.set_cons_zero, List.set_cons_succ, i64_w, i32_w]
                                  rfl
                                refine pure_ (i := 6) (N := some 4) (v := ?_) (a' := ?_) #[true, true, true, true, true, true, true] rfl rfl (by kernel_rfl) (fun _ _ _ h => h) (Or.inl ⟨by rfl, ?_⟩) ?_ ?_
                                rotate_left
                                · intro w'
                                  go_simp
                                  with_reducible rfl
                                rotate_left
                                · simp only [Act.put, List.setIfInBounds_toArray, List.set_cons_zero, List.set_cons_succ, i64_w, i32_w]
                                  rfl
                                refine done_ (by kernel_rfl) ?_
                                try go_wp2
                                go_ret
                                exact ⟨by first | rfl | (simp [errW_none, errW_some] <;> rfl) | (simp [*, errW_none, errW_some] <;> rfl), by repeat (first | (with_reducible first | exact HB.out | apply below_alloc | apply pw_below_drewN | apply below_drew1 | refine below_set ?_ GE289.out | refine below_set ?_ GE298.out | refine below_set ?_ GE302.out | refine below_set ?_ GE308.out) | exact HB.out)⟩
                              · rw [if_neg c95] at H
                                exact absurd H (by simp)
                            · rw [if_neg c94] at H
                              exact absurd H (by simp)

end Go.Proofs.Ytoepdplglablcaa.J
