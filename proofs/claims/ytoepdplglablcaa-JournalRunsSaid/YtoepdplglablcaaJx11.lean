-- Written by wip/oprint (this session's own program): the machine's side of a proof. Not trusted: Lean checks it.
import Derived.Test.YtoepdplglablcaaJx0
import Derived.Test.YtoepdplglablcaaJx2
import Derived.Test.YtoepdplglablcaaJx3
import Derived.Test.YtoepdplglablcaaJx5
import Derived.Test.YtoepdplglablcaaJx10
namespace Go.Proofs.Ytoepdplglablcaa.J
open Go.RowKit Go.Proofs.YtoepdplglablcaaW.PrintWords Go.Proofs.YtoepdplglablcaaW.PrintLast Go.Proofs.YtoepdplglablcaaW.PrintMore
attribute [local go_sem] max2_int min2_int max_two min_two max_three min_three max_four min_four   -- for this text's walks alone
set_option linter.unusedVariables false
set_option linter.unusedSimpArgs false

/-! ### ancepslaw56_JournalRuns: function 10 -/
mutual
def ancepslaw56_JournalRuns.j0 : Nat → List (S51) → Bool → Option (Bool)
  | 0, _, _ => none
  | k + 1, x0, x22 => if x22 = true then ((ancepslaw56_awake.f k).bind fun t374 => (some t374)) else ((journal_New.f).bind fun bt375 => (ancepslaw56_JournalRuns.l0 k ([] : List ByteArray) 0 x0 (x0.length : Int) 0 bt375.1 bt375.2))
def ancepslaw56_JournalRuns.l0 : Nat → List ByteArray → Int → List (S51) → Int → Int → ByteArray → ByteArray → Option (Bool)
  | 0, _, _, _, _, _, _, _ => none
  | k + 1, x4, x5, x25, x26, x27, x378000, x378001 => if x27 < x26 then (if 0 ≤ x27 then (if x27 < (x25.length : Int) then (if (Int.tmod ((rd_T51 x25 x27).f0) 3) = 0 then ((journal_Append.f k x378000 x378001 ((rd_T51 x25 x27).f1)).bind fun bt380 => (if bt380.2.2 = 0 then (if x4.length < 8796093022208 then (ancepslaw56_JournalRuns.j4 k (x4 ++ [(rd_T51 x25 x27).f1]) x5 x25 x26 x27 bt380.1 bt380.2.1) else (none)) else (if (((rd_T51 x25 x27).f1).size : Int) > 400 then (some (bt380.2.2 == 3)) else (some false)))) else (if (Int.tmod ((rd_T51 x25 x27).f0) 3) = 1 then ((journal_Sync.f x378000 x378001).bind fun bt387 => (ancepslaw56_JournalRuns.j4 k x4 (x4.length : Int) x25 x26 x27 bt387.1 bt387.2)) else (if (wrap64 ((x378001.size : Int) + 1)) = 0 then (none) else (if (Int.tmod (wrap64 ((rd_T51 x25 x27).f2)) (wrap64 ((x378001.size : Int) + 1))) > 0 then (ancepslaw56_JournalRuns.j2 k x4 x5 (Int.tmod (wrap64 ((rd_T51 x25 x27).f2)) (wrap64 ((x378001.size : Int) + 1))) (-1) x25 x26 x27 (decide ((Int.tmod ((rd_T51 x25 x27).f3) 3) > 0)) x378000 x378001 ((rd_T51 x25 x27).f0) ((rd_T51 x25 x27).f1) ((rd_T51 x25 x27).f2) ((rd_T51 x25 x27).f3)) else (ancepslaw56_JournalRuns.j2 k x4 x5 (Int.tmod (wrap64 ((rd_T51 x25 x27).f2)) (wrap64 ((x378001.size : Int) + 1))) (-1) x25 x26 x27 false x378000 x378001 ((rd_T51 x25 x27).f0) ((rd_T51 x25 x27).f1) ((rd_T51 x25 x27).f2) ((rd_T51 x25 x27).f3)))))) else (none)) else (none)) else (some true)
def ancepslaw56_JournalRuns.j4 : Nat → List ByteArray → Int → List (S51) → Int → Int → ByteArray → ByteArray → Option (Bool)
  | 0, _, _, _, _, _, _, _ => none
  | k + 1, x4, x5, x25, x26, x27, x378000, x378001 => (journal_Read.f k x378000 x378001).bind fun t400 => ((ancepsref56_Same.f k t400 x4).bind fun t403 => (if t403 = true then (ancepslaw56_JournalRuns.l0 k x4 x5 x25 x26 (wrap64 (x27 + 1)) x378000 x378001) else (some false)))
def ancepslaw56_JournalRuns.j2 : Nat → List ByteArray → Int → Int → Int → List (S51) → Int → Int → Bool → ByteArray → ByteArray → Int → ByteArray → Int → Int → Option (Bool)
  | 0, _, _, _, _, _, _, _, _, _, _, _, _, _, _ => none
  | k + 1, x4, x5, x10, x11, x25, x26, x27, x49, x378000, x378001, x380000, x380001, x380002, x380003 => if x49 = true then (if (wrap64 (8 * x10)) = 0 then (none) else (ancepslaw56_JournalRuns.j3 k x4 x5 x10 (Int.tmod (wrap64 (x380003)) (wrap64 (8 * x10))) x25 x26 x27 x378000 x378001)) else (ancepslaw56_JournalRuns.j3 k x4 x5 x10 x11 x25 x26 x27 x378000 x378001)
def ancepslaw56_JournalRuns.j3 : Nat → List ByteArray → Int → Int → Int → List (S51) → Int → Int → ByteArray → ByteArray → Option (Bool)
  | 0, _, _, _, _, _, _, _, _, _ => none
  | k + 1, x4, x5, x10, x11, x25, x26, x27, x378000, x378001 => (journal_Crash.f x378000 x378001 x10 x11).bind fun bt389 => ((journal_Recover.f k bt389.1 bt389.2.1).bind fun bt393 => (if bt389.2.2 = 0 then ((ancepsref56_Begins.f k bt393.2.2 x4).bind fun t399 => (if t399 = true then (if (bt393.2.2.length : Int) < x5 then (some false) else (ancepslaw56_JournalRuns.j4 k bt393.2.2 (bt393.2.2.length : Int) x25 x26 x27 bt393.1 bt393.2.1)) else (some false))) else (some false)))
end
def ancepslaw56_JournalRuns.f (k : Nat) (l0 : List (S51)) : Option (Bool) := (ancepslaw56_awake.f k).bind fun t373 => (if t373 = true then (ancepslaw56_JournalRuns.j0 k l0 (decide ((l0.length : Int) > 40))) else (ancepslaw56_JournalRuns.j0 k l0 true))
theorem ancepslaw56_JournalRuns.mono_l : ∀ k, (∀ y0 y1, LeO (ancepslaw56_JournalRuns.j0 k y0 y1) (ancepslaw56_JournalRuns.j0 (k + 1) y0 y1)) ∧ (∀ y0 y1 y2 y3 y4 y5 y6, LeO (ancepslaw56_JournalRuns.l0 k y0 y1 y2 y3 y4 y5 y6) (ancepslaw56_JournalRuns.l0 (k + 1) y0 y1 y2 y3 y4 y5 y6)) ∧ (∀ y0 y1 y2 y3 y4 y5 y6, LeO (ancepslaw56_JournalRuns.j4 k y0 y1 y2 y3 y4 y5 y6) (ancepslaw56_JournalRuns.j4 (k + 1) y0 y1 y2 y3 y4 y5 y6)) ∧ (∀ y0 y1 y2 y3 y4 y5 y6 y7 y8 y9 y10 y11 y12 y13, LeO (ancepslaw56_JournalRuns.j2 k y0 y1 y2 y3 y4 y5 y6 y7 y8 y9 y10 y11 y12 y13) (ancepslaw56_JournalRuns.j2 (k + 1) y0 y1 y2 y3 y4 y5 y6 y7 y8 y9 y10 y11 y12 y13)) ∧ (∀ y0 y1 y2 y3 y4 y5 y6 y7 y8, LeO (ancepslaw56_JournalRuns.j3 k y0 y1 y2 y3 y4 y5 y6 y7 y8) (ancepslaw56_JournalRuns.j3 (k + 1) y0 y1 y2 y3 y4 y5 y6 y7 y8))
  | 0 => ⟨fun _ _ r h => by simp [ancepslaw56_JournalRuns.j0] at h, fun _ _ _ _ _ _ _ r h => by simp [ancepslaw56_JournalRuns.l0] at h, fun _ _ _ _ _ _ _ r h => by simp [ancepslaw56_JournalRuns.j4] at h, fun _ _ _ _ _ _ _ _ _ _ _ _ _ _ r h => by simp [ancepslaw56_JournalRuns.j2] at h, fun _ _ _ _ _ _ _ _ _ r h => by simp [ancepslaw56_JournalRuns.j3] at h⟩
  | k + 1 => by
    obtain ⟨ih0, ih1, ih2, ih3, ih4⟩ := ancepslaw56_JournalRuns.mono_l k
    refine ⟨?_, ?_, ?_, ?_, ?_⟩
    · intro y0 y1
      unfold ancepslaw56_JournalRuns.j0
      repeat' first
      | (with_reducible exact ih0 _ _)
      | (with_reducible exact ih1 _ _ _ _ _ _ _)
      | (with_reducible exact ih2 _ _ _ _ _ _ _)
      | (with_reducible exact ih3 _ _ _ _ _ _ _ _ _ _ _ _ _ _)
      | (with_reducible exact ih4 _ _ _ _ _ _ _ _ _)
      | (with_reducible exact ancepslaw56_awake.mono _)
      | (with_reducible exact ancepsref56_Begins.mono _ _ _)
      | (with_reducible exact ancepsref56_Same.mono _ _ _)
      | (with_reducible exact journal_Append.mono _ _ _ _)
      | (with_reducible exact journal_Read.mono _ _ _)
      | (with_reducible exact journal_Recover.mono _ _ _)
      | (with_reducible exact LeO.refl _)
      | (with_reducible exact LeO.none _)
      | (with_reducible refine LeO.ite ?_ ?_)
      | (with_reducible refine LeO.bind ?_ (fun _ => ?_))
      | exact ih0 _ _
      | exact ih1 _ _ _ _ _ _ _
      | exact ih2 _ _ _ _ _ _ _
      | exact ih3 _ _ _ _ _ _ _ _ _ _ _ _ _ _
      | exact ih4 _ _ _ _ _ _ _ _ _
      | exact ancepslaw56_awake.mono _
      | exact ancepsref56_Begins.mono _ _ _
      | exact ancepsref56_Same.mono _ _ _
      | exact journal_Append.mono _ _ _ _
      | exact journal_Read.mono _ _ _
      | exact journal_Recover.mono _ _ _
      | exact LeO.none _
      | refine LeO.ite ?_ ?_
      | refine LeO.bind ?_ (fun _ => ?_)
    · intro y0 y1 y2 y3 y4 y5 y6
      unfold ancepslaw56_JournalRuns.l0
      repeat' first
      | (with_reducible exact ih0 _ _)
      | (with_reducible exact ih1 _ _ _ _ _ _ _)
      | (with_reducible exact ih2 _ _ _ _ _ _ _)
      | (with_reducible exact ih3 _ _ _ _ _ _ _ _ _ _ _ _ _ _)
      | (with_reducible exact ih4 _ _ _ _ _ _ _ _ _)
      | (with_reducible exact ancepslaw56_awake.mono _)
      | (with_reducible exact ancepsref56_Begins.mono _ _ _)
      | (with_reducible exact ancepsref56_Same.mono _ _ _)
      | (with_reducible exact journal_Append.mono _ _ _ _)
      | (with_reducible exact journal_Read.mono _ _ _)
      | (with_reducible exact journal_Recover.mono _ _ _)
      | (with_reducible exact LeO.refl _)
      | (with_reducible exact LeO.none _)
      | (with_reducible refine LeO.ite ?_ ?_)
      | (with_reducible refine LeO.bind ?_ (fun _ => ?_))
      | exact ih0 _ _
      | exact ih1 _ _ _ _ _ _ _
      | exact ih2 _ _ _ _ _ _ _
      | exact ih3 _ _ _ _ _ _ _ _ _ _ _ _ _ _
      | exact ih4 _ _ _ _ _ _ _ _ _
      | exact ancepslaw56_awake.mono _
      | exact ancepsref56_Begins.mono _ _ _
      | exact ancepsref56_Same.mono _ _ _
      | exact journal_Append.mono _ _ _ _
      | exact journal_Read.mono _ _ _
      | exact journal_Recover.mono _ _ _
      | exact LeO.none _
      | refine LeO.ite ?_ ?_
      | refine LeO.bind ?_ (fun _ => ?_)
    · intro y0 y1 y2 y3 y4 y5 y6
      unfold ancepslaw56_JournalRuns.j4
      repeat' first
      | (with_reducible exact ih0 _ _)
      | (with_reducible exact ih1 _ _ _ _ _ _ _)
      | (with_reducible exact ih2 _ _ _ _ _ _ _)
      | (with_reducible exact ih3 _ _ _ _ _ _ _ _ _ _ _ _ _ _)
      | (with_reducible exact ih4 _ _ _ _ _ _ _ _ _)
      | (with_reducible exact ancepslaw56_awake.mono _)
      | (with_reducible exact ancepsref56_Begins.mono _ _ _)
      | (with_reducible exact ancepsref56_Same.mono _ _ _)
      | (with_reducible exact journal_Append.mono _ _ _ _)
      | (with_reducible exact journal_Read.mono _ _ _)
      | (with_reducible exact journal_Recover.mono _ _ _)
      | (with_reducible exact LeO.refl _)
      | (with_reducible exact LeO.none _)
      | (with_reducible refine LeO.ite ?_ ?_)
      | (with_reducible refine LeO.bind ?_ (fun _ => ?_))
      | exact ih0 _ _
      | exact ih1 _ _ _ _ _ _ _
      | exact ih2 _ _ _ _ _ _ _
      | exact ih3 _ _ _ _ _ _ _ _ _ _ _ _ _ _
      | exact ih4 _ _ _ _ _ _ _ _ _
      | exact ancepslaw56_awake.mono _
      | exact ancepsref56_Begins.mono _ _ _
      | exact ancepsref56_Same.mono _ _ _
      | exact journal_Append.mono _ _ _ _
      | exact journal_Read.mono _ _ _
      | exact journal_Recover.mono _ _ _
      | exact LeO.none _
      | refine LeO.ite ?_ ?_
      | refine LeO.bind ?_ (fun _ => ?_)
    · intro y0 y1 y2 y3 y4 y5 y6 y7 y8 y9 y10 y11 y12 y13
      unfold ancepslaw56_JournalRuns.j2
      repeat' first
      | (with_reducible exact ih0 _ _)
      | (with_reducible exact ih1 _ _ _ _ _ _ _)
      | (with_reducible exact ih2 _ _ _ _ _ _ _)
      | (with_reducible exact ih3 _ _ _ _ _ _ _ _ _ _ _ _ _ _)
      | (with_reducible exact ih4 _ _ _ _ _ _ _ _ _)
      | (with_reducible exact ancepslaw56_awake.mono _)
      | (with_reducible exact ancepsref56_Begins.mono _ _ _)
      | (with_reducible exact ancepsref56_Same.mono _ _ _)
      | (with_reducible exact journal_Append.mono _ _ _ _)
      | (with_reducible exact journal_Read.mono _ _ _)
      | (with_reducible exact journal_Recover.mono _ _ _)
      | (with_reducible exact LeO.refl _)
      | (with_reducible exact LeO.none _)
      | (with_reducible refine LeO.ite ?_ ?_)
      | (with_reducible refine LeO.bind ?_ (fun _ => ?_))
      | exact ih0 _ _
      | exact ih1 _ _ _ _ _ _ _
      | exact ih2 _ _ _ _ _ _ _
      | exact ih3 _ _ _ _ _ _ _ _ _ _ _ _ _ _
      | exact ih4 _ _ _ _ _ _ _ _ _
      | exact ancepslaw56_awake.mono _
      | exact ancepsref56_Begins.mono _ _ _
      | exact ancepsref56_Same.mono _ _ _
      | exact journal_Append.mono _ _ _ _
      | exact journal_Read.mono _ _ _
      | exact journal_Recover.mono _ _ _
      | exact LeO.none _
      | refine LeO.ite ?_ ?_
      | refine LeO.bind ?_ (fun _ => ?_)
    · intro y0 y1 y2 y3 y4 y5 y6 y7 y8
      unfold ancepslaw56_JournalRuns.j3
      repeat' first
      | (with_reducible exact ih0 _ _)
      | (with_reducible exact ih1 _ _ _ _ _ _ _)
      | (with_reducible exact ih2 _ _ _ _ _ _ _)
      | (with_reducible exact ih3 _ _ _ _ _ _ _ _ _ _ _ _ _ _)
      | (with_reducible exact ih4 _ _ _ _ _ _ _ _ _)
      | (with_reducible exact ancepslaw56_awake.mono _)
      | (with_reducible exact ancepsref56_Begins.mono _ _ _)
      | (with_reducible exact ancepsref56_Same.mono _ _ _)
      | (with_reducible exact journal_Append.mono _ _ _ _)
      | (with_reducible exact journal_Read.mono _ _ _)
      | (with_reducible exact journal_Recover.mono _ _ _)
      | (with_reducible exact LeO.refl _)
      | (with_reducible exact LeO.none _)
      | (with_reducible refine LeO.ite ?_ ?_)
      | (with_reducible refine LeO.bind ?_ (fun _ => ?_))
      | exact ih0 _ _
      | exact ih1 _ _ _ _ _ _ _
      | exact ih2 _ _ _ _ _ _ _
      | exact ih3 _ _ _ _ _ _ _ _ _ _ _ _ _ _
      | exact ih4 _ _ _ _ _ _ _ _ _
      | exact ancepslaw56_awake.mono _
      | exact ancepsref56_Begins.mono _ _ _
      | exact ancepsref56_Same.mono _ _ _
      | exact journal_Append.mono _ _ _ _
      | exact journal_Read.mono _ _ _
      | exact journal_Recover.mono _ _ _
      | exact LeO.none _
      | refine LeO.ite ?_ ?_
      | refine LeO.bind ?_ (fun _ => ?_)
theorem ancepslaw56_JournalRuns.mono : ∀ a0 k, LeO (ancepslaw56_JournalRuns.f k a0) (ancepslaw56_JournalRuns.f (k + 1) a0) := by
  intro a0 k
  obtain ⟨ih0, ih1, ih2, ih3, ih4⟩ := ancepslaw56_JournalRuns.mono_l k
  unfold ancepslaw56_JournalRuns.f
  repeat' first
      | (with_reducible exact ih0 _ _)
      | (with_reducible exact ih1 _ _ _ _ _ _ _)
      | (with_reducible exact ih2 _ _ _ _ _ _ _)
      | (with_reducible exact ih3 _ _ _ _ _ _ _ _ _ _ _ _ _ _)
      | (with_reducible exact ih4 _ _ _ _ _ _ _ _ _)
      | (with_reducible exact ancepslaw56_awake.mono _)
      | (with_reducible exact ancepsref56_Begins.mono _ _ _)
      | (with_reducible exact ancepsref56_Same.mono _ _ _)
      | (with_reducible exact journal_Append.mono _ _ _ _)
      | (with_reducible exact journal_Read.mono _ _ _)
      | (with_reducible exact journal_Recover.mono _ _ _)
      | (with_reducible exact LeO.refl _)
      | (with_reducible exact LeO.none _)
      | (with_reducible refine LeO.ite ?_ ?_)
      | (with_reducible refine LeO.bind ?_ (fun _ => ?_))
      | exact ih0 _ _
      | exact ih1 _ _ _ _ _ _ _
      | exact ih2 _ _ _ _ _ _ _
      | exact ih3 _ _ _ _ _ _ _ _ _ _ _ _ _ _
      | exact ih4 _ _ _ _ _ _ _ _ _
      | exact ancepslaw56_awake.mono _
      | exact ancepsref56_Begins.mono _ _ _
      | exact ancepsref56_Same.mono _ _ _
      | exact journal_Append.mono _ _ _ _
      | exact journal_Read.mono _ _ _
      | exact journal_Recover.mono _ _ _
      | exact LeO.none _
      | refine LeO.ite ?_ ?_
      | refine LeO.bind ?_ (fun _ => ?_)
def ancepslaw56_JournalRuns.T22 : Bool × List (List Nat × List Nat) := (true, [([], []), ([], []), ([], []), ([2], [2]), ([3], [3]), ([1, 4], [1, 4]), ([0, 5, 0], [0]), ([5, 6, 0, 1, 2, 3, 4, 5, 6], [1, 5])])
def ancepslaw56_JournalRuns.B22 : List Nat := [0, 0, 0, 4, 12, 30, 63, 127]
theorem ancepslaw56_JournalRuns.tab22 : rtab .any (opsOf Try.f10 22) = ancepslaw56_JournalRuns.T22 := by kernel_rfl
theorem ancepslaw56_JournalRuns.bits22 : waitsOk ancepslaw56_JournalRuns.T22.2 ancepslaw56_JournalRuns.B22 = true := by kernel_rfl
set_option maxHeartbeats 8000000 in
set_option maxRecDepth 100000 in
theorem ancepslaw56_JournalRuns.calls (k : Nat) (A0 : Option Addr) (c0 : Nat) (l0 : List (S51)) (r : Bool) (w : World) (hr0 : Kd.C k51 w A0 l0.length l0) (hc0 : l0.length ≤ c0) (h : ancepslaw56_JournalRuns.f k l0 = some r) :
    Calls Try.prog 10 #[.slice A0 l0.length c0] w fun e w' => e = .returned (.bool r) ∧ Below w.heap.size w w' := by
  have hu33 := Try.underlying33
  have hu51 := Try.underlying51
  have HR0 := Aside0.mk hr0
  have HC0 := Aside0.mk hc0
  clear hr0 hc0
  have HB := Aside0.mk (Below.refl w.heap.size w)
  have H : ((ancepslaw56_awake.f k).bind fun t373 => (if t373 = true then (ancepslaw56_JournalRuns.j0 k l0 (decide ((l0.length : Int) > 40))) else (ancepslaw56_JournalRuns.j0 k l0 true))) = some r := h
  clear h
  have HC2 := Aside0.mk H
  clear H
  go_enter Try.func10, Try.ntmps10
  go_upto_region 1 with (fail)
  go_cut [22] (fun v22 wc => ∃ (kq : Nat) (x22_1 : Bool), v22 = .bool x22_1 ∧ Aside0 (ancepslaw56_JournalRuns.j0 kq l0 x22_1 = some r) ∧ Aside0 (kq ≤ k) ∧ Aside0 (Below w.heap.size w wc))
  case first =>
    have H := HC2.out
    clear HC2
    replace H := Option.bind_eq_some_iff.mp H
    obtain ⟨t373, A30, H⟩ := H
    replace H : (if t373 = true then (ancepslaw56_JournalRuns.j0 k l0 (decide ((l0.length : Int) > 40))) else (ancepslaw56_JournalRuns.j0 k l0 true)) = some r := H
    have A3 := Aside0.mk A30
    clear A30
    by_cases c4 : t373 = true
    · subst c4
      have H1 : (ancepslaw56_JournalRuns.j0 k l0 (decide ((l0.length : Int) > 40))) = some r := by rw [if_pos rfl] at H; exact H
      clear H
      have H := H1
      clear H1
      have H' := Aside0.mk H
      clear H
      go_wp2_with (first | ((with_reducible refine gate_callee (f := 11) rfl ?_); refine goesL_ (some 16) rfl rfl Try.func11 (by kernel_rfl) rfl #[] rfl (by (try simp only [List.map_toArray, List.map_cons, List.map_nil]); first | done | rfl | (simp only [List.length_drop, List.length_take]; rfl) | (simp only [decide_eq_true_eq, decide_eq_false_iff_not] at *; congr <;> (first | rfl | (refine (congrArg (Value.int .i64) ?_ : Value.int .i64 _ = Value.int .i64 _); unfold wrap64; omega) | fail)) | fail) ?_; (with_reducible refine (ancepslaw56_awake.calls k  true _ A3.out).mono ?_); rintro e w5 ⟨rfl, hb⟩; refine ⟨_, rfl, ?_⟩; have n0_ := Aside0.mk (below_step (by repeat (first | (with_reducible first | exact HB.out | apply below_alloc | apply pw_below_drewN | apply below_drew1) | exact HB.out)) hb); clear HB; have HB := n0_; clear n0_; (try clear hb); (try clear hb2); (try clear hk); (try clear hi)))
      go_meet
      case rel => exact ⟨_, (decide ((l0.length : Int) > 40)), (by first | rfl | (simp; done) | (simp [*]; done)), H', ⟨by first | omega | exact Nat.le_refl _⟩, ⟨by repeat (first | (with_reducible first | exact HB.out | apply below_alloc | apply pw_below_drewN | apply below_drew1) | exact HB.out)⟩⟩
    · replace c4 := Bool.eq_false_iff.mpr c4
      subst c4
      have H1 : (ancepslaw56_JournalRuns.j0 k l0 true) = some r := by rw [if_neg (show ¬ (false = true) by decide)] at H; exact H
      clear H
      have H := H1
      clear H1
      have H' := Aside0.mk H
      clear H
      go_wp2_with (first | ((with_reducible refine gate_callee (f := 11) rfl ?_); refine goesL_ (some 16) rfl rfl Try.func11 (by kernel_rfl) rfl #[] rfl (by (try simp only [List.map_toArray, List.map_cons, List.map_nil]); first | done | rfl | (simp only [List.length_drop, List.length_take]; rfl) | (simp only [decide_eq_true_eq, decide_eq_false_iff_not] at *; congr <;> (first | rfl | (refine (congrArg (Value.int .i64) ?_ : Value.int .i64 _ = Value.int .i64 _); unfold wrap64; omega) | fail)) | fail) ?_; (with_reducible refine (ancepslaw56_awake.calls k  false _ A3.out).mono ?_); rintro e w6 ⟨rfl, hb⟩; refine ⟨_, rfl, ?_⟩; have n0_ := Aside0.mk (below_step (by repeat (first | (with_reducible first | exact HB.out | apply below_alloc | apply pw_below_drewN | apply below_drew1) | exact HB.out)) hb); clear HB; have HB := n0_; clear n0_; (try clear hb); (try clear hb2); (try clear hk); (try clear hi)))
      go_meet
      case rel => exact ⟨_, (true), (by first | rfl | (simp; done) | (simp [*]; done)), H', ⟨by first | omega | exact Nat.le_refl _⟩, ⟨by repeat (first | (with_reducible first | exact HB.out | apply below_alloc | apply pw_below_drewN | apply below_drew1) | exact HB.out)⟩⟩
  case rest =>
    clear HC2
    try clear c1
    try clear p2
    try clear c4
    try clear p6
    obtain ⟨kq, x22_1, rfl, HA, HJ1, HB⟩ := hcut
    cases kq with
    | zero => exact absurd HA.out (by simp [ancepslaw56_JournalRuns.j0])
    | succ kj1 =>
      have H := HA.out
      clear HA
      simp only [ancepslaw56_JournalRuns.j0] at H
      by_cases c7 : x22_1 = true
      · subst c7
        have H1 : ((ancepslaw56_awake.f kj1).bind fun t374 => (some t374)) = some r := by rw [if_pos rfl] at H; exact H
        clear H
        have H := H1
        clear H1
        replace H := Option.bind_eq_some_iff.mp H
        obtain ⟨t374, A80, H⟩ := H
        replace H : (some t374) = some r := H
        have A8 := Aside0.mk A80
        clear A80
        obtain rfl := Option.some.inj H
        go_wp2_with (first | ((with_reducible refine gate_callee (f := 11) rfl ?_); refine goesL_ (some 23) rfl rfl Try.func11 (by kernel_rfl) rfl #[] rfl (by (try simp only [List.map_toArray, List.map_cons, List.map_nil]); first | done | rfl | (simp only [List.length_drop, List.length_take]; rfl) | (simp only [decide_eq_true_eq, decide_eq_false_iff_not] at *; congr <;> (first | rfl | (refine (congrArg (Value.int .i64) ?_ : Value.int .i64 _ = Value.int .i64 _); unfold wrap64; omega) | fail)) | fail) ?_; (with_reducible refine (ancepslaw56_awake.calls kj1  t374 _ A8.out).mono ?_); rintro e w9 ⟨rfl, hb⟩; refine ⟨_, rfl, ?_⟩; have n0_ := Aside0.mk (below_step (by repeat (first | (with_reducible first | exact HB.out | apply below_alloc | apply pw_below_drewN | apply below_drew1) | exact HB.out)) hb); clear HB; have HB := n0_; clear n0_; (try clear hb); (try clear hb2); (try clear hk); (try clear hi)))
        go_ret
        exact ⟨by first | rfl | (simp [errW_none, errW_some] <;> rfl) | (simp [*, errW_none, errW_some] <;> rfl), by repeat (first | (with_reducible first | exact HB.out | apply below_alloc | apply pw_below_drewN | apply below_drew1) | exact HB.out)⟩
      · replace c7 := Bool.eq_false_iff.mpr c7
        subst c7
        have H1 : ((journal_New.f).bind fun bt375 => (ancepslaw56_JournalRuns.l0 kj1 ([] : List ByteArray) 0 l0 (l0.length : Int) 0 bt375.1 bt375.2)) = some r := by rw [if_neg (show ¬ (false = true) by decide)] at H; exact H
        clear H
        have H := H1
        clear H1
        replace H := Option.bind_eq_some_iff.mp H
        obtain ⟨⟨t375, t376⟩, A100, H⟩ := H
        replace H : (ancepslaw56_JournalRuns.l0 kj1 ([] : List ByteArray) 0 l0 (l0.length : Int) 0 t375 t376) = some r := H
        have A10 := Aside0.mk A100
        clear A100
        have H' := Aside0.mk H
        clear H
        go_wp2_with (first | ((with_reducible refine gate_callee (f := 30) rfl ?_); refine goesL_ (some 24) rfl rfl Try.func30 (by kernel_rfl) rfl #[] rfl (by (try simp only [List.map_toArray, List.map_cons, List.map_nil]); first | done | rfl | (simp only [List.length_drop, List.length_take]; rfl) | (simp only [decide_eq_true_eq, decide_eq_false_iff_not] at *; congr <;> (first | rfl | (refine (congrArg (Value.int .i64) ?_ : Value.int .i64 _ = Value.int .i64 _); unfold wrap64; omega) | fail)) | fail) ?_; (with_reducible refine (journal_New.calls  t375 t376 _ A10.out).mono ?_); rintro e w11 ⟨rfl, hb⟩; refine ⟨_, rfl, ?_⟩; have n0_ := Aside0.mk (below_step (by repeat (first | (with_reducible first | exact HB.out | apply below_alloc | apply pw_below_drewN | apply below_drew1) | exact HB.out)) hb); clear HB; have HB := n0_; clear n0_; (try clear hb); (try clear hb2); (try clear hk); (try clear hi)) | ((with_reducible refine gate_dst (N := 3) rfl ?_); (try (refine gate_guard (by rfl) ?_; dsimp only)); refine box_event ?hg (N := 3) ?hd (cs := #[.string (⟨#[]⟩ : ByteArray), .string (⟨#[]⟩ : ByteArray)]) (t := 33) ?hr ?_; (case hd => rfl); (case hg => rfl); (case hr => first | (go_simp; done) | (go_simp; rfl)); intro gb377 hg w12 hbox hb; have n0_ := Aside0.mk (below_step (by repeat (first | (with_reducible first | exact HB.out | apply below_alloc | apply pw_below_drewN | apply below_drew1) | exact HB.out)) hb); have n1_ := Aside0.mk (hbox); have n2_ := Aside0.mk ((by rw [hg]; exact (below_size (by repeat (first | (with_reducible first | exact HB.out | apply below_alloc | apply pw_below_drewN | apply below_drew1) | exact HB.out))) : w.heap.size ≤ gb377)); have n3_ := Aside0.mk ((by rw [hg]; exact (below_size (by repeat (first | (with_reducible first | exact HB.out | apply below_alloc | apply pw_below_drewN | apply below_drew1) | exact HB.out))) : w.heap.size ≤ gb377)); clear HB; have HB := n0_; have BK377 := n1_; have GW377 := n2_; have GE377 := n3_; clear n0_ n1_ n2_ n3_; clear hb hbox hg; have hcz13_0 : w12.cell? ⟨gb377, 0, none⟩ = some (.string (⟨#[]⟩ : ByteArray)) := (blk_cell BK377.out 0).trans rfl; have hcz13_1 : w12.cell? ⟨gb377, 1, none⟩ = some (.string (⟨#[]⟩ : ByteArray)) := (blk_cell BK377.out 1).trans rfl; have hfz13_0 := blk_frozen BK377.out 0; have hfz13_1 := blk_frozen BK377.out 1))
        go_loopg [4, 5, 27] kj1 (fun kq v4 v5 v27 w' => ∃ (x4_2 : List ByteArray) (x5_2 : Int) (x27_2 : Int) (x378000_2 : ByteArray) (x378001_2 : ByteArray), v5 = .int .i64 x5_2 ∧ v27 = .int .i64 x27_2 ∧ Aside0 (ancepslaw56_JournalRuns.l0 kq x4_2 x5_2 l0 (l0.length : Int) x27_2 x378000_2 x378001_2 = some r) ∧ Aside0 (kq ≤ kj1) ∧ Aside0 (Kd.R Kd.string 9 w' w.heap.size (fun _ => True) v4 x4_2) ∧ Aside0 (w'.heap[gb377]? = some (.cells #[.string x378000_2, .string x378001_2] 33 (0, 0))) ∧ Aside0 (Below w.heap.size w w'))
        case atStart => exact ⟨(([] : List ByteArray)), (0), (0), (t375), (t376), (by first | rfl | (simp; done) | (simp [*]; done)), (by first | rfl | (simp; done) | (simp [*]; done)), H', ⟨Nat.le_refl _⟩, ⟨by first | exact Kd.R_nil _ _ _ _ _ | exact Kd.N_nil _ _ _ _ _ | exact Kd.V_nil _ _ _ _ _ | exact Kd.Q_nil _ _ _ _ _ | exact Kd.S_nil _ _ _ _ _⟩, ⟨by (with_reducible repeat (first | refine blk_drewN ?_ _ | refine blk_drew ?_ | refine blk_alloc ?_ _)); refine blk_put (cs := #[.string t375, .string (⟨#[]⟩ : ByteArray)]) ?_ 1 _ rfl; (with_reducible repeat (first | refine blk_drewN ?_ _ | refine blk_drew ?_ | refine blk_alloc ?_ _)); refine blk_put (cs := #[.string (⟨#[]⟩ : ByteArray), .string (⟨#[]⟩ : ByteArray)]) ?_ 0 _ rfl; (with_reducible repeat (first | refine blk_drewN ?_ _ | refine blk_drew ?_ | refine blk_alloc ?_ _)); exact BK377.out⟩, ⟨by repeat (first | (with_reducible first | exact HB.out | apply below_alloc | apply pw_below_drewN | apply below_drew1 | refine below_set ?_ GE377.out) | exact HB.out)⟩⟩
        case round =>
          clear H'
          try clear c1
          try clear p2
          try clear c3
          try clear c4
          try clear p6
          try clear c7
          try clear c10
          try clear c11
          try clear hcz13_0
          try clear hcz13_1
          try clear hfz13_0
          try clear hfz13_1
          try clear p2
          try clear p6
          obtain ⟨x4_2, x5_2, x27_2, x378000_2, x378001_2, rfl, rfl, HA, HK2, HO_4, BK377, HB⟩ := hrel
          cases gk with
          | zero => exact absurd HA.out (by simp [ancepslaw56_JournalRuns.l0])
          | succ k2 =>
            have H := HA.out
            clear HA
            simp only [ancepslaw56_JournalRuns.l0] at H
            by_cases c14 : x27_2 < (l0.length : Int)
            · rw [if_pos c14] at H
              have c14b0 : decide (x27_2 < (l0.length : Int)) = true := decide_eq_true c14
              clear c14
              by_cases c15 : 0 ≤ x27_2
              · rw [if_pos c15] at H
                have c15b0 : decide (0 ≤ x27_2) = true := decide_eq_true c15
                clear c15
                by_cases c16 : x27_2 < (l0.length : Int)
                · rw [if_pos c16] at H
                  have c16b0 : decide (x27_2 < (l0.length : Int)) = true := decide_eq_true c16
                  clear c16
                  have HC17 := Aside0.mk H
                  clear H
                  have p378 : 0 ≤ (x27_2 : Int) := of_decide_eq_true (by first | (with_reducible assumption) | assumption)
                  have q378 : x27_2 < (l0.length : Int) := of_decide_eq_true (by first | (with_reducible assumption) | assumption)
                  obtain ⟨ad378, e378, hx378_0, hx378_1, hx378_2, hx378_3⟩ := at_T51 HR0.out x27_2 p378 q378
                  cases e378
                  replace hx378_0 := (HB.out.cell (World.block_lt_of_cell? w _ hx378_0)).trans hx378_0
                  replace hx378_1 := (HB.out.cell (World.block_lt_of_cell? w _ hx378_1)).trans hx378_1
                  replace hx378_2 := (HB.out.cell (World.block_lt_of_cell? w _ hx378_2)).trans hx378_2
                  replace hx378_3 := (HB.out.cell (World.block_lt_of_cell? w _ hx378_3)).trans hx378_3
                  replace p378 := eq_true p378
                  replace q378 := eq_true q378
                  go_upto_block 2 with (first | ((with_reducible refine gate_dst (N := 7) rfl ?_); (try (refine gate_guard (by rfl) ?_; dsimp only)); refine box_event ?hg (N := 7) ?hd (cs := #[.int .u8 0, .string (⟨#[]⟩ : ByteArray), .int .u16 0, .int .u16 0]) (t := 51) ?hr ?_; (case hd => rfl); (case hg => rfl); (case hr => first | (go_simp; done) | (go_simp; rfl)); intro gb379 hg w18 hbox hb; have n0_ := Aside0.mk (Kd.R_below (by (with_reducible repeat (first | apply Kd.R_alloc | apply Kd.R_drewN | apply Kd.R_drew)); exact HO_4.out) hb); have n1_ := Aside0.mk (blk_below (g := gb377) (o := .cells #[.string x378000_2, .string x378001_2] 33 (0, 0)) (by (with_reducible repeat (first | refine blk_drewN ?_ _ | refine blk_drew ?_ | refine blk_alloc ?_ _)); exact BK377.out) hb); have n2_ := Aside0.mk (below_step (by repeat (first | (with_reducible first | exact HB.out | apply below_alloc | apply pw_below_drewN | apply below_drew1 | refine below_set ?_ GE377.out) | exact HB.out)) hb); have n3_ := Aside0.mk (hbox); have n4_ := Aside0.mk ((by rw [hg]; exact (below_size (by repeat (first | (with_reducible first | exact HB.out | apply below_alloc | apply pw_below_drewN | apply below_drew1 | refine below_set ?_ GE377.out) | exact HB.out))) : w.heap.size ≤ gb379)); have n5_ := Aside0.mk ((by rw [hg]; exact (below_size (by repeat (first | (with_reducible first | exact HB.out | apply below_alloc | apply pw_below_drewN | apply below_drew1 | refine below_set ?_ GE377.out) | exact HB.out))) : w.heap.size ≤ gb379)); have n6_ := Aside0.mk ((by rw [hg]; exact Nat.ne_of_lt (blk_lt (g := gb377) (o := .cells #[.string x378000_2, .string x378001_2] 33 (0, 0)) (by (with_reducible repeat (first | refine blk_drewN ?_ _ | refine blk_drew ?_ | refine blk_alloc ?_ _)); exact BK377.out)) : gb377 ≠ gb379)); have n7_ := Aside0.mk ((by rw [hg]; exact Nat.ne_of_gt (blk_lt (g := gb377) (o := .cells #[.string x378000_2, .string x378001_2] 33 (0, 0)) (by (with_reducible repeat (first | refine blk_drewN ?_ _ | refine blk_drew ?_ | refine blk_alloc ?_ _)); exact BK377.out)) : gb379 ≠ gb377)); clear HO_4; clear BK377; clear HB; have HO_4 := n0_; have BK377 := n1_; have HB := n2_; have BK379 := n3_; have GW379 := n4_; have GE379 := n5_; have NB377_379 := n6_; have NB379_377 := n7_; clear n0_ n1_ n2_ n3_ n4_ n5_ n6_ n7_; clear hb hbox hg; have hnb19 := NB379_377.out; have hnc19 := NB377_379.out; have hcz20_0 : w18.cell? ⟨gb379, 0, none⟩ = some (.int .u8 0) := (blk_cell BK379.out 0).trans rfl; have hcz20_1 : w18.cell? ⟨gb379, 1, none⟩ = some (.string (⟨#[]⟩ : ByteArray)) := (blk_cell BK379.out 1).trans rfl; have hcz20_2 : w18.cell? ⟨gb379, 2, none⟩ = some (.int .u16 0) := (blk_cell BK379.out 2).trans rfl; have hcz20_3 : w18.cell? ⟨gb379, 3, none⟩ = some (.int .u16 0) := (blk_cell BK379.out 3).trans rfl; have hfz20_0 := blk_frozen BK379.out 0; have hfz20_1 := blk_frozen BK379.out 1; have hfz20_2 := blk_frozen BK379.out 2; have hfz20_3 := blk_frozen BK379.out 3))
                  (try simp only [Act.put, List.setIfInBounds_toArray, List.set_cons_zero, List.set_cons_succ])
                  go_cut [4, 5] (fun v4 v5 wc => ∃ (kq : Nat) (x4_16 : List ByteArray) (x5_16 : Int) (x378000_16 : ByteArray) (x378001_16 : ByteArray), v5 = .int .i64 x5_16 ∧ Aside0 (ancepslaw56_JournalRuns.j4 kq x4_16 x5_16 l0 (l0.length : Int) x27_2 x378000_16 x378001_16 = some r) ∧ Aside0 (kq ≤ k2) ∧ Aside0 (Kd.R Kd.string 9 wc w.heap.size (fun _ => True) v4 x4_16) ∧ Aside0 (wc.heap[gb377]? = some (.cells #[.string x378000_16, .string x378001_16] 33 (0, 0))) ∧ Aside0 (wc.heap[gb379]? = some (.cells #[.int .u8 ((rd_T51 l0 x27_2).f0), .string ((rd_T51 l0 x27_2).f1), .int .u16 ((rd_T51 l0 x27_2).f2), .int .u16 ((rd_T51 l0 x27_2).f3)] 51 (0, 0))) ∧ Aside0 (Below w.heap.size w wc))
                  case first =>
                    have H := HC17.out
                    clear HC17
                    by_cases c21 : (Int.tmod ((rd_T51 l0 x27_2).f0) 3) = 0
                    · rw [if_pos c21] at H
                      have c21b0 : ((Int.tmod ((rd_T51 l0 x27_2).f0) 3) == 0) = true := beq_iff_eq.mpr c21
                      have c21b1 : ((Int.tmod ((rd_T51 l0 x27_2).f0) 3) != 0) = false := bne_eq_false_iff_eq.mpr c21
                      clear c21
                      (first | rw [c21b0] | (simp only [i64_w, i32_w]; rw [c21b0]) | skip)
                      replace H := Option.bind_eq_some_iff.mp H
                      obtain ⟨⟨t380, t381, t382⟩, A220, H⟩ := H
                      replace H : (if t382 = 0 then (if x4_2.length < 8796093022208 then (ancepslaw56_JournalRuns.j4 k2 (x4_2 ++ [(rd_T51 l0 x27_2).f1]) x5_2 l0 (l0.length : Int) x27_2 t380 t381) else (none)) else (if (((rd_T51 l0 x27_2).f1).size : Int) > 400 then (some (t382 == 3)) else (some false))) = some r := H
                      have A22 := Aside0.mk A220
                      clear A220
                      by_cases c23 : t382 = 0
                      · rw [if_pos c23] at H
                        have c23b0 : (t382 == 0) = true := beq_iff_eq.mpr c23
                        have c23b1 : (t382 != 0) = false := bne_eq_false_iff_eq.mpr c23
                        clear c23
                        by_cases c24 : x4_2.length < 8796093022208
                        · rw [if_pos c24] at H
                          have LMc24 := Aside0.mk c24
                          clear c24
                          obtain ⟨y384, hy384⟩ : ∃ y_ : List ByteArray, y_ = (x4_2 ++ [(rd_T51 l0 x27_2).f1]) := ⟨_, rfl⟩
                          replace H : (ancepslaw56_JournalRuns.j4 k2 y384 x5_2 l0 (l0.length : Int) x27_2 t380 t381) = some r := by first | (rw [hy384]; with_reducible exact H) | (have H2_ := (Option.bind_some _ _).symm.trans H; rw [hy384]; with_reducible exact H2_) | (have H2_ := (Option.bind_some _ _).symm.trans H; with_reducible exact H2_) | with_reducible exact H | (rw [hy384]; exact H) | exact H
                          have Ny384 := Aside0.mk hy384
                          clear hy384
                          have H' := Aside0.mk H
                          clear H
                          have hnb25 := NB377_379.out
                          have hnc25 := NB379_377.out
                          have hcz26_0 : w18.cell? ⟨gb377, 0, none⟩ = some (.string x378000_2) := (blk_cell BK377.out 0).trans rfl
                          have hcz26_1 : w18.cell? ⟨gb377, 1, none⟩ = some (.string x378001_2) := (blk_cell BK377.out 1).trans rfl
                          have hfz26_0 := blk_frozen BK377.out 0
                          have hfz26_1 := blk_frozen BK377.out 1
                          have hcz27_0 : w18.cell? ⟨gb379, 0, none⟩ = some (.int .u8 0) := (blk_cell BK379.out 0).trans rfl
                          have hcz27_1 : w18.cell? ⟨gb379, 1, none⟩ = some (.string (⟨#[]⟩ : ByteArray)) := (blk_cell BK379.out 1).trans rfl
                          have hcz27_2 : w18.cell? ⟨gb379, 2, none⟩ = some (.int .u16 0) := (blk_cell BK379.out 2).trans rfl
                          have hcz27_3 : w18.cell? ⟨gb379, 3, none⟩ = some (.int .u16 0) := (blk_cell BK379.out 3).trans rfl
                          have hfz27_0 := blk_frozen BK379.out 0
                          have hfz27_1 := blk_frozen BK379.out 1
                          have hfz27_2 := blk_frozen BK379.out 2
                          have hfz27_3 := blk_frozen BK379.out 3
                          try go_wp2_with (first | ((with_reducible refine gate_callee (f := 21) rfl ?_); refine goesL_ (some 92) rfl rfl Try.func21 (by kernel_rfl) rfl #[.agg #[.string x378000_2, .string x378001_2], .string ((rd_T51 l0 x27_2).f1)] rfl (by (try simp only [List.map_toArray, List.map_cons, List.map_nil]); first | done | rfl | (simp only [List.length_drop, List.length_take]; rfl) | (simp only [decide_eq_true_eq, decide_eq_false_iff_not] at *; congr <;> (first | rfl | (refine (congrArg (Value.int .i64) ?_ : Value.int .i64 _ = Value.int .i64 _); unfold wrap64; omega) | fail)) | fail) ?_; (with_reducible refine (journal_Append.calls k2 x378000_2 x378001_2 ((rd_T51 l0 x27_2).f1) t380 t381 t382 _ A22.out).mono ?_); rintro e w28 ⟨rfl, hb⟩; refine ⟨_, rfl, ?_⟩; have n0_ := Aside0.mk (Kd.R_below (by (with_reducible repeat (first | apply Kd.R_alloc | apply Kd.R_drewN | apply Kd.R_drew)); exact (Kd.R_mono (Kd.R_far (p := ⟨gb379, 3, none⟩) (Kd.R_far (p := ⟨gb379, 2, none⟩) (Kd.R_far (p := ⟨gb379, 1, none⟩) (Kd.R_far (p := ⟨gb379, 0, none⟩) (Kd.R_types HO_4.out BK379.out (by decide)) (fun _ hk => hk.2) (.int .u8 ((rd_T51 l0 x27_2).f0))) (fun _ hk => hk.2) (.string ((rd_T51 l0 x27_2).f1))) (fun _ hk => hk.2) (.int .u16 ((rd_T51 l0 x27_2).f2))) (fun _ hk => hk.2) (.int .u16 ((rd_T51 l0 x27_2).f3))) (fun _ h_ => h_.1))) hb); have n1_ := Aside0.mk (blk_below (g := gb377) (o := .cells #[.string x378000_2, .string x378001_2] 33 (0, 0)) (by (with_reducible repeat (first | refine blk_drewN ?_ _ | refine blk_drew ?_ | refine blk_alloc ?_ _)); refine blk_far ?_ NB377_379.out _; (with_reducible repeat (first | refine blk_drewN ?_ _ | refine blk_drew ?_ | refine blk_alloc ?_ _)); refine blk_far ?_ NB377_379.out _; (with_reducible repeat (first | refine blk_drewN ?_ _ | refine blk_drew ?_ | refine blk_alloc ?_ _)); refine blk_far ?_ NB377_379.out _; (with_reducible repeat (first | refine blk_drewN ?_ _ | refine blk_drew ?_ | refine blk_alloc ?_ _)); refine blk_far ?_ NB377_379.out _; (with_reducible repeat (first | refine blk_drewN ?_ _ | refine blk_drew ?_ | refine blk_alloc ?_ _)); exact BK377.out) hb); have n2_ := Aside0.mk (blk_below (g := gb379) (o := .cells #[.int .u8 ((rd_T51 l0 x27_2).f0), .string ((rd_T51 l0 x27_2).f1), .int .u16 ((rd_T51 l0 x27_2).f2), .int .u16 ((rd_T51 l0 x27_2).f3)] 51 (0, 0)) (by (with_reducible repeat (first | refine blk_drewN ?_ _ | refine blk_drew ?_ | refine blk_alloc ?_ _)); refine blk_put (cs := #[.int .u8 ((rd_T51 l0 x27_2).f0), .string ((rd_T51 l0 x27_2).f1), .int .u16 ((rd_T51 l0 x27_2).f2), .int .u16 0]) ?_ 3 _ rfl; (with_reducible repeat (first | refine blk_drewN ?_ _ | refine blk_drew ?_ | refine blk_alloc ?_ _)); refine blk_put (cs := #[.int .u8 ((rd_T51 l0 x27_2).f0), .string ((rd_T51 l0 x27_2).f1), .int .u16 0, .int .u16 0]) ?_ 2 _ rfl; (with_reducible repeat (first | refine blk_drewN ?_ _ | refine blk_drew ?_ | refine blk_alloc ?_ _)); refine blk_put (cs := #[.int .u8 ((rd_T51 l0 x27_2).f0), .string (⟨#[]⟩ : ByteArray), .int .u16 0, .int .u16 0]) ?_ 1 _ rfl; (with_reducible repeat (first | refine blk_drewN ?_ _ | refine blk_drew ?_ | refine blk_alloc ?_ _)); refine blk_put (cs := #[.int .u8 0, .string (⟨#[]⟩ : ByteArray), .int .u16 0, .int .u16 0]) ?_ 0 _ rfl; (with_reducible repeat (first | refine blk_drewN ?_ _ | refine blk_drew ?_ | refine blk_alloc ?_ _)); exact BK379.out) hb); have n3_ := Aside0.mk (below_step (by repeat (first | (with_reducible first | exact HB.out | apply below_alloc | apply pw_below_drewN | apply below_drew1 | refine below_set ?_ GE377.out | refine below_set ?_ GE379.out) | exact HB.out)) hb); clear HO_4; clear BK377; clear BK379; clear HB; have HO_4 := n0_; have BK377 := n1_; have BK379 := n2_; have HB := n3_; clear n0_ n1_ n2_ n3_; (try clear hb); (try clear hb2); (try clear hk); (try clear hi)) | ((with_reducible refine gate_dst (N := 8) rfl ?_); (try (refine gate_guard (by rfl) ?_; dsimp only)); refine box_event ?hg (N := 8) ?hd (cs := #[.string (⟨#[]⟩ : ByteArray), .string (⟨#[]⟩ : ByteArray)]) (t := 33) ?hr ?_; (case hd => rfl); (case hg => rfl); (case hr => first | (go_simp; done) | (go_simp; rfl)); intro gb383 hg w29 hbox hb; have n0_ := Aside0.mk (Kd.R_below (by (with_reducible repeat (first | apply Kd.R_alloc | apply Kd.R_drewN | apply Kd.R_drew)); exact HO_4.out) hb); have n1_ := Aside0.mk (blk_below (g := gb377) (o := .cells #[.string x378000_2, .string x378001_2] 33 (0, 0)) (by (with_reducible repeat (first | refine blk_drewN ?_ _ | refine blk_drew ?_ | refine blk_alloc ?_ _)); exact BK377.out) hb); have n2_ := Aside0.mk (blk_below (g := gb379) (o := .cells #[.int .u8 ((rd_T51 l0 x27_2).f0), .string ((rd_T51 l0 x27_2).f1), .int .u16 ((rd_T51 l0 x27_2).f2), .int .u16 ((rd_T51 l0 x27_2).f3)] 51 (0, 0)) (by (with_reducible repeat (first | refine blk_drewN ?_ _ | refine blk_drew ?_ | refine blk_alloc ?_ _)); exact BK379.out) hb); have n3_ := Aside0.mk (below_step (by repeat (first | (with_reducible first | exact HB.out | apply below_alloc | apply pw_below_drewN | apply below_drew1 | refine below_set ?_ GE377.out | refine below_set ?_ GE379.out) | exact HB.out)) hb); have n4_ := Aside0.mk (hbox); have n5_ := Aside0.mk ((by rw [hg]; exact (below_size (by repeat (first | (with_reducible first | exact HB.out | apply below_alloc | apply pw_below_drewN | apply below_drew1 | refine below_set ?_ GE377.out | refine below_set ?_ GE379.out) | exact HB.out))) : w.heap.size ≤ gb383)); have n6_ := Aside0.mk ((by rw [hg]; exact (below_size (by repeat (first | (with_reducible first | exact HB.out | apply below_alloc | apply pw_below_drewN | apply below_drew1 | refine below_set ?_ GE377.out | refine below_set ?_ GE379.out) | exact HB.out))) : w.heap.size ≤ gb383)); have n7_ := Aside0.mk ((by rw [hg]; exact Nat.ne_of_lt (blk_lt (g := gb377) (o := .cells #[.string x378000_2, .string x378001_2] 33 (0, 0)) (by (with_reducible repeat (first | refine blk_drewN ?_ _ | refine blk_drew ?_ | refine blk_alloc ?_ _)); exact BK377.out)) : gb377 ≠ gb383)); have n8_ := Aside0.mk ((by rw [hg]; exact Nat.ne_of_gt (blk_lt (g := gb377) (o := .cells #[.string x378000_2, .string x378001_2] 33 (0, 0)) (by (with_reducible repeat (first | refine blk_drewN ?_ _ | refine blk_drew ?_ | refine blk_alloc ?_ _)); exact BK377.out)) : gb383 ≠ gb377)); have n9_ := Aside0.mk ((by rw [hg]; exact Nat.ne_of_lt (blk_lt (g := gb379) (o := .cells #[.int .u8 ((rd_T51 l0 x27_2).f0), .string ((rd_T51 l0 x27_2).f1), .int .u16 ((rd_T51 l0 x27_2).f2), .int .u16 ((rd_T51 l0 x27_2).f3)] 51 (0, 0)) (by (with_reducible repeat (first | refine blk_drewN ?_ _ | refine blk_drew ?_ | refine blk_alloc ?_ _)); exact BK379.out)) : gb379 ≠ gb383)); have n10_ := Aside0.mk ((by rw [hg]; exact Nat.ne_of_gt (blk_lt (g := gb379) (o := .cells #[.int .u8 ((rd_T51 l0 x27_2).f0), .string ((rd_T51 l0 x27_2).f1), .int .u16 ((rd_T51 l0 x27_2).f2), .int .u16 ((rd_T51 l0 x27_2).f3)] 51 (0, 0)) (by (with_reducible repeat (first | refine blk_drewN ?_ _ | refine blk_drew ?_ | refine blk_alloc ?_ _)); exact BK379.out)) : gb383 ≠ gb379)); clear HO_4; clear BK377; clear BK379; clear HB; have HO_4 := n0_; have BK377 := n1_; have BK379 := n2_; have HB := n3_; have BK383 := n4_; have GW383 := n5_; have GE383 := n6_; have NB377_383 := n7_; have NB383_377 := n8_; have NB379_383 := n9_; have NB383_379 := n10_; clear n0_ n1_ n2_ n3_ n4_ n5_ n6_ n7_ n8_ n9_ n10_; clear hb hbox hg; have hnb30 := NB383_377.out; have hnc30 := NB377_383.out; have hnb31 := NB383_379.out; have hnc31 := NB379_383.out; have hcz32_0 : w29.cell? ⟨gb383, 0, none⟩ = some (.string (⟨#[]⟩ : ByteArray)) := (blk_cell BK383.out 0).trans rfl; have hcz32_1 : w29.cell? ⟨gb383, 1, none⟩ = some (.string (⟨#[]⟩ : ByteArray)) := (blk_cell BK383.out 1).trans rfl; have hfz32_0 := blk_frozen BK383.out 0; have hfz32_1 := blk_frozen BK383.out 1))
                          have n0_ : Aside0 (Kd.R Kd.string 9 ((w29.setCell ⟨gb383, 0, none⟩ (.string t380)).setCell ⟨gb383, 1, none⟩ (.string t381)) w.heap.size (fun _ => True) u4 x4_2) := ⟨by (with_reducible repeat (first | apply Kd.R_alloc | apply Kd.R_drewN | apply Kd.R_drew)); exact Kd.R_mono (Kd.R_far (p := ⟨gb383, 1, none⟩) (Kd.R_far (p := ⟨gb383, 0, none⟩) (Kd.R_types HO_4.out BK383.out (by decide)) (fun _ hk => hk.2) (.string t380)) (fun _ hk => hk.2) (.string t381)) (fun _ hk => trivial)⟩
                          have n1_ : Aside0 (((w29.setCell ⟨gb383, 0, none⟩ (.string t380)).setCell ⟨gb383, 1, none⟩ (.string t381)).heap[gb377]? = some (.cells #[.string x378000_2, .string x378001_2] 33 (0, 0))) := ⟨by (with_reducible repeat (first | refine blk_drewN ?_ _ | refine blk_drew ?_ | refine blk_alloc ?_ _)); refine blk_far ?_ NB377_383.out _; (with_reducible repeat (first | refine blk_drewN ?_ _ | refine blk_drew ?_ | refine blk_alloc ?_ _)); refine blk_far ?_ NB377_383.out _; (with_reducible repeat (first | refine blk_drewN ?_ _ | refine blk_drew ?_ | refine blk_alloc ?_ _)); exact BK377.out⟩
                          have n2_ : Aside0 (((w29.setCell ⟨gb383, 0, none⟩ (.string t380)).setCell ⟨gb383, 1, none⟩ (.string t381)).heap[gb379]? = some (.cells #[.int .u8 ((rd_T51 l0 x27_2).f0), .string ((rd_T51 l0 x27_2).f1), .int .u16 ((rd_T51 l0 x27_2).f2), .int .u16 ((rd_T51 l0 x27_2).f3)] 51 (0, 0))) := ⟨by (with_reducible repeat (first | refine blk_drewN ?_ _ | refine blk_drew ?_ | refine blk_alloc ?_ _)); refine blk_far ?_ NB379_383.out _; (with_reducible repeat (first | refine blk_drewN ?_ _ | refine blk_drew ?_ | refine blk_alloc ?_ _)); refine blk_far ?_ NB379_383.out _; (with_reducible repeat (first | refine blk_drewN ?_ _ | refine blk_drew ?_ | refine blk_alloc ?_ _)); exact BK379.out⟩
                          have n3_ : Aside0 (((w29.setCell ⟨gb383, 0, none⟩ (.string t380)).setCell ⟨gb383, 1, none⟩ (.string t381)).heap[gb383]? = some (.cells #[.string t380, .string t381] 33 (0, 0))) := ⟨by (with_reducible repeat (first | refine blk_drewN ?_ _ | refine blk_drew ?_ | refine blk_alloc ?_ _)); refine blk_put (cs := #[.string t380, .string (⟨#[]⟩ : ByteArray)]) ?_ 1 _ rfl; (with_reducible repeat (first | refine blk_drewN ?_ _ | refine blk_drew ?_ | refine blk_alloc ?_ _)); refine blk_put (cs := #[.string (⟨#[]⟩ : ByteArray), .string (⟨#[]⟩ : ByteArray)]) ?_ 0 _ rfl; (with_reducible repeat (first | refine blk_drewN ?_ _ | refine blk_drew ?_ | refine blk_alloc ?_ _)); exact BK383.out⟩
                          have n4_ : Aside0 (Below w.heap.size w ((w29.setCell ⟨gb383, 0, none⟩ (.string t380)).setCell ⟨gb383, 1, none⟩ (.string t381))) := ⟨by repeat (first | (with_reducible first | exact HB.out | apply below_alloc | apply pw_below_drewN | apply below_drew1 | refine below_set ?_ GE377.out | refine below_set ?_ GE379.out | refine below_set ?_ GE383.out) | exact HB.out)⟩
                          (try clear HO_4)
                          (try clear BK377)
                          (try clear BK379)
                          (try clear BK383)
                          (try clear HB)
                          generalize ((w29.setCell ⟨gb383, 0, none⟩ (.string t380)).setCell ⟨gb383, 1, none⟩ (.string t381)) = w33 at n0_ n1_ n2_ n3_ n4_ ⊢
                          have HO_4 := n0_
                          have BK377 := n1_
                          have BK379 := n2_
                          have BK383 := n3_
                          have HB := n4_
                          clear n0_ n1_ n2_ n3_ n4_
                          have n0_ := Aside0.mk (Kd.R_drew HO_4.out)
                          have n1_ := Aside0.mk (blk_drew BK377.out)
                          have n2_ := Aside0.mk (blk_drew BK379.out)
                          have n3_ := Aside0.mk (blk_drew BK383.out)
                          have n4_ := Aside0.mk (below_drew1 HB.out)
                          clear HO_4
                          clear BK377
                          clear BK379
                          clear BK383
                          clear HB
                          have HO_4 := n0_
                          have BK377 := n1_
                          have BK379 := n2_
                          have BK383 := n3_
                          have HB := n4_
                          clear n0_ n1_ n2_ n3_ n4_
                          refine start_ (n := 8) (S := fun w' => w'.cell? ⟨gb383, 0, none⟩ = some (.string t380) ∧ w'.cell? ⟨gb383, 1, none⟩ = some (.string t381) ∧ w'.cell? ⟨gb379, 0, none⟩ = some (.int .u8 ((rd_T51 l0 x27_2).f0)) ∧ w'.cell? ⟨gb379, 1, none⟩ = some (.string ((rd_T51 l0 x27_2).f1)) ∧ w'.cell? ⟨gb379, 2, none⟩ = some (.int .u16 ((rd_T51 l0 x27_2).f2)) ∧ w'.cell? ⟨gb379, 3, none⟩ = some (.int .u16 ((rd_T51 l0 x27_2).f3))) (ds := []) #[false, false, false, false, false, false, false, false] (by kernel_rfl) rfl rfl ⟨(blk_cell BK383.out 0).trans rfl, (blk_cell BK383.out 1).trans rfl, (blk_cell BK379.out 0).trans rfl, (blk_cell BK379.out 1).trans rfl, (blk_cell BK379.out 2).trans rfl, (blk_cell BK379.out 3).trans rfl⟩ (fun hHeld => ?_); refine with_tabW ancepslaw56_JournalRuns.tab22 ancepslaw56_JournalRuns.bits22 (fun HT_ HW_ => ?_)
                          generalize w33.drew = w34 at HO_4 BK377 BK379 BK383 HB hHeld ⊢
                          refine pure_ (i := 1) (N := some 106) (v := ?_) (a' := ?_) #[false, true, false, false, false, false, false, false] rfl rfl (any_of HT_.out (by kernel_rfl)) (fun _ _ _ h => h) (Or.inl ⟨by rfl, ?_⟩) ?_ ?_
                          rotate_left
                          · intro w'
                            go_simp
                            with_reducible rfl
                          rotate_left
                          · simp only [Act.put, List.setIfInBounds_toArray, List.set_cons_zero, List.set_cons_succ, i64_w, i32_w]
                            rfl
                          refine pure_ (i := 2) (N := some 107) (v := ?_) (a' := ?_) #[false, true, true, false, false, false, false, false] rfl rfl (any_of HT_.out (by kernel_rfl)) (fun _ _ _ h => h) (Or.inl ⟨by rfl, ?_⟩) ?_ ?_
                          rotate_left
                          · intro w'
                            go_simp
                            with_reducible rfl
                          rotate_left
                          · simp only [Act.put, List.setIfInBounds_toArray, List.set_cons_zero, List.set_cons_succ, i64_w, i32_w]
                            rfl
                          refine take_ (i := 0) (N := some 105) (v := ?_) (a' := ?_) #[true, true, true, false, false, false, false, false] rfl rfl (take_ofW HT_.out HW_.out (by kernel_rfl)) (fun _ _ _ h => h) (Or.inl ⟨by rfl, ?_⟩) hHeld ?_ ?_
                          rotate_left
                          · rintro w' ⟨s0, s1, s2, s3, s4, s5⟩
                            go_simp
                            with_reducible rfl
                          rotate_left
                          · simp only [Act.put, List.setIfInBounds_toArray, List.set_cons_zero, List.set_cons_succ, i64_w, i32_w]
                            rfl
                          refine take_ (i := 3) (N := some 108) (v := ?_) (a' := ?_) #[true, true, true, true, false, false, false, false] rfl rfl (take_ofW HT_.out HW_.out (by kernel_rfl)) (fun _ _ _ h => h) (Or.inl ⟨by rfl, ?_⟩) hHeld ?_ ?_
                          rotate_left
                          · rintro w' ⟨s0, s1, s2, s3, s4, s5⟩
                            go_simp
                            with_reducible rfl
                          rotate_left
                          · simp only [Act.put, List.setIfInBounds_toArray, List.set_cons_zero, List.set_cons_succ, i64_w, i32_w]
                            rfl
                          refine one_ (i := 4) (N := some 109) #[true, true, true, true, true, false, false, false] rfl rfl (one_of HT_.out (by kernel_rfl)) (by decide) (fun K hK => ?_)
                          refine value_ (w1 := ?_) (v := ?_) (by rfl) rfl ?_ ?_
                          rotate_left 2
                          · go_simp
                            constructor
                            · rfl
                            · rfl
                          refine hK.out _ _ ⟨(blk_cell (blk_alloc BK383.out _) 0).trans rfl, (blk_cell (blk_alloc BK383.out _) 1).trans rfl, (blk_cell (blk_alloc BK379.out _) 0).trans rfl, (blk_cell (blk_alloc BK379.out _) 1).trans rfl, (blk_cell (blk_alloc BK379.out _) 2).trans rfl, (blk_cell (blk_alloc BK379.out _) 3).trans rfl⟩ (fun hHeld => ?_)
                          clear hK K
                          refine norm_ (a' := ?_) ?_ ?_
                          rotate_left
                          · show Act.put _ (some 109) _ = _
                            simp only [Act.put, List.setIfInBounds_toArray, List.set_cons_zero, List.set_cons_succ, i64_w, i32_w]
                            rfl
                          refine one_ (i := 5) (N := some 110) #[true, true, true, true, true, true, false, false] rfl rfl (one_of HT_.out (by kernel_rfl)) (by decide) (fun K hK => ?_)
                          refine Kd.R_append_step Kd.string (w0 := w) w.heap.size (by rfl) (.tmp 106) (.tmp 109) 27 9 (.string ⟨#[]⟩) 16 rfl Try.underlying27 info9 rfl (by decide) (by omega) u4 x4_2 ((rd_T51 l0 x27_2).f1) [.string ((rd_T51 l0 x27_2).f1)] (fun _ => True) (fun _ => False) rfl rfl ?aP (fun _ hk => hk.elim) ?aF ?aO ?aB ?aS ?aL ?_
                          (case aP => exact rfl)
                          (case aB => exact (by repeat (first | (with_reducible first | exact HB.out | apply below_alloc | apply pw_below_drewN | apply below_drew1 | refine below_set ?_ GE377.out | refine below_set ?_ GE379.out | refine below_set ?_ GE383.out) | exact HB.out)))
                          (case aF => exact (fun _ _ => trivial))
                          (case aO => exact (by (with_reducible repeat (first | apply Kd.R_alloc | apply Kd.R_drewN | apply Kd.R_drew)); exact HO_4.out))
                          (case aS => exact (below_size (by repeat (first | (with_reducible first | exact HB.out | apply below_alloc | apply pw_below_drewN | apply below_drew1 | refine below_set ?_ GE377.out | refine below_set ?_ GE379.out | refine below_set ?_ GE383.out) | exact HB.out))))
                          (case aL => have := LMc24.out; omega)
                          intro v385 w35 ho hb hg hat
                          rw [← Ny384.out] at ho
                          have n0_ := Aside0.mk (blk_grown (g := gb377) (o := .cells #[.string x378000_2, .string x378001_2] 33 (0, 0)) (by (with_reducible repeat (first | refine blk_drewN ?_ _ | refine blk_drew ?_ | refine blk_alloc ?_ _)); exact BK377.out) hg (Kd.R_ne HO_4.out BK377.out (by decide)))
                          have n1_ := Aside0.mk (blk_grown (g := gb379) (o := .cells #[.int .u8 ((rd_T51 l0 x27_2).f0), .string ((rd_T51 l0 x27_2).f1), .int .u16 ((rd_T51 l0 x27_2).f2), .int .u16 ((rd_T51 l0 x27_2).f3)] 51 (0, 0)) (by (with_reducible repeat (first | refine blk_drewN ?_ _ | refine blk_drew ?_ | refine blk_alloc ?_ _)); exact BK379.out) hg (Kd.R_ne HO_4.out BK379.out (by decide)))
                          have n2_ := Aside0.mk (blk_grown (g := gb383) (o := .cells #[.string t380, .string t381] 33 (0, 0)) (by (with_reducible repeat (first | refine blk_drewN ?_ _ | refine blk_drew ?_ | refine blk_alloc ?_ _)); exact BK383.out) hg (Kd.R_ne HO_4.out BK383.out (by decide)))
                          have n3_ := Aside0.mk (hb)
                          have n4_ := Aside0.mk (ho)
                          clear BK377
                          clear BK379
                          clear BK383
                          clear HB
                          clear HO_4
                          have BK377 := n0_
                          have BK379 := n1_
                          have BK383 := n2_
                          have HB := n3_
                          have HO386 := n4_
                          clear n0_ n1_ n2_ n3_ n4_
                          clear ho hb hg hat
                          refine hK.out _ _ ⟨(blk_cell BK383.out 0).trans rfl, (blk_cell BK383.out 1).trans rfl, (blk_cell BK379.out 0).trans rfl, (blk_cell BK379.out 1).trans rfl, (blk_cell BK379.out 2).trans rfl, (blk_cell BK379.out 3).trans rfl⟩ (fun hHeld => ?_)
                          clear hK K
                          refine norm_ (a' := ?_) ?_ ?_
                          rotate_left
                          · show Act.put _ (some 110) _ = _
                            simp only [Act.put, List.setIfInBounds_toArray, List.set_cons_zero, List.set_cons_succ, i64_w, i32_w]
                            rfl
                          refine one_ (i := 6) (N := none) #[true, true, true, true, true, true, true, false] rfl rfl (one_of HT_.out (by kernel_rfl)) (by decide) (fun K hK => ?_)
                          have hs36 : w35.cell? ⟨gb377, 0, none⟩ = some (.string x378000_2) := (blk_cell BK377.out 0).trans rfl
                          have hfs36 := blk_frozen BK377.out 0
                          have hns36_1 := NB379_377.out
                          have hns36_2 := NB383_377.out
                          have hms36_1 := NB377_379.out
                          have hms36_2 := NB377_383.out
                          have hs37 : w35.cell? ⟨gb377, 1, none⟩ = some (.string x378001_2) := (blk_cell BK377.out 1).trans rfl
                          have hfs37 := blk_frozen BK377.out 1
                          have hns37_1 := NB379_377.out
                          have hns37_2 := NB383_377.out
                          have hms37_1 := NB377_379.out
                          have hms37_2 := NB377_383.out
                          refine skip_ (w1 := ?_) (by rfl) rfl ?_ ?_
                          rotate_left
                          · go_simp
                            rfl
                          refine hK.out _ _ ⟨((cell_far (p := ⟨gb377, _, none⟩) NB383_377.out _).trans (((cell_far (p := ⟨gb377, _, none⟩) NB383_377.out _).trans (hHeld.1)))), ((cell_far (p := ⟨gb377, _, none⟩) NB383_377.out _).trans (((cell_far (p := ⟨gb377, _, none⟩) NB383_377.out _).trans (hHeld.2.1)))), ((cell_far (p := ⟨gb377, _, none⟩) NB379_377.out _).trans (((cell_far (p := ⟨gb377, _, none⟩) NB379_377.out _).trans (hHeld.2.2.1)))), ((cell_far (p := ⟨gb377, _, none⟩) NB379_377.out _).trans (((cell_far (p := ⟨gb377, _, none⟩) NB379_377.out _).trans (hHeld.2.2.2.1)))), ((cell_far (p := ⟨gb377, _, none⟩) NB379_377.out _).trans (((cell_far (p := ⟨gb377, _, none⟩) NB379_377.out _).trans (hHeld.2.2.2.2.1)))), ((cell_far (p := ⟨gb377, _, none⟩) NB379_377.out _).trans (((cell_far (p := ⟨gb377, _, none⟩) NB379_377.out _).trans (hHeld.2.2.2.2.2))))⟩ (fun hHeld => ?_)
                          clear hK K
                          refine pure_ (i := 7) (N := some 4) (v := ?_) (a' := ?_) #[true, true, true, true, true, true, true, true] rfl rfl (any_of HT_.out (by kernel_rfl)) (fun _ _ _ h => h) (Or.inl ⟨by rfl, ?_⟩) ?_ ?_
                          rotate_left
                          · intro w'
                            go_simp
                            with_reducible rfl
                          rotate_left
                          · simp only [Act.put, List.setIfInBounds_toArray, List.set_cons_zero, List.set_cons_succ, i64_w, i32_w]
                            rfl
                          refine done_ (done_of HT_.out (by kernel_rfl)) ?_
                          try go_wp2
                          go_meet
                          case rel => exact ⟨_, (y384), (x5_2), (t380), (t381), (by first | rfl | (simp; done) | (simp [*]; done)), H', ⟨by have := HJ1.out; have := HK2.out; first | omega | exact Nat.le_refl _⟩, ⟨by (with_reducible repeat (first | apply Kd.R_alloc | apply Kd.R_drewN | apply Kd.R_drew)); exact Kd.R_mono (Kd.R_far (p := ⟨gb377, 1, none⟩) (Kd.R_far (p := ⟨gb377, 0, none⟩) (Kd.R_types HO386.out BK377.out (by decide)) (fun _ hk => hk.2) (.string t380)) (fun _ hk => hk.2) (.string t381)) (fun _ hk => trivial)⟩, ⟨by (with_reducible repeat (first | refine blk_drewN ?_ _ | refine blk_drew ?_ | refine blk_alloc ?_ _)); refine blk_put (cs := #[.string t380, .string x378001_2]) ?_ 1 _ rfl; (with_reducible repeat (first | refine blk_drewN ?_ _ | refine blk_drew ?_ | refine blk_alloc ?_ _)); refine blk_put (cs := #[.string x378000_2, .string x378001_2]) ?_ 0 _ rfl; (with_reducible repeat (first | refine blk_drewN ?_ _ | refine blk_drew ?_ | refine blk_alloc ?_ _)); exact BK377.out⟩, ⟨by (with_reducible repeat (first | refine blk_drewN ?_ _ | refine blk_drew ?_ | refine blk_alloc ?_ _)); refine blk_far ?_ NB379_377.out _; (with_reducible repeat (first | refine blk_drewN ?_ _ | refine blk_drew ?_ | refine blk_alloc ?_ _)); refine blk_far ?_ NB379_377.out _; (with_reducible repeat (first | refine blk_drewN ?_ _ | refine blk_drew ?_ | refine blk_alloc ?_ _)); exact BK379.out⟩, ⟨by repeat (first | (with_reducible first | exact HB.out | apply below_alloc | apply pw_below_drewN | apply below_drew1 | refine below_set ?_ GE377.out | refine below_set ?_ GE379.out | refine below_set ?_ GE383.out) | exact HB.out)⟩⟩
                        · rw [if_neg c24] at H
                          exact absurd H (by simp)
                      · rw [if_neg c23] at H
                        have c23b0 : (t382 == 0) = false := beq_eq_false_iff_ne.mpr c23
                        have c23b1 : (t382 != 0) = true := bne_iff_ne.mpr c23
                        by_cases c38 : (((rd_T51 l0 x27_2).f1).size : Int) > 400
                        · rw [if_pos c38] at H
                          have c38b0 : decide (400 < (((rd_T51 l0 x27_2).f1).size : Int)) = true := decide_eq_true c38
                          have c38b1 : decide (400 < ((rd_T51 l0 x27_2).f1).size) = true := decide_eq_true (by omega)
                          clear c38
                          obtain rfl := Option.some.inj H
                          have hnb39 := NB377_379.out
                          have hnc39 := NB379_377.out
                          have hcz40_0 : w18.cell? ⟨gb377, 0, none⟩ = some (.string x378000_2) := (blk_cell BK377.out 0).trans rfl
                          have hcz40_1 : w18.cell? ⟨gb377, 1, none⟩ = some (.string x378001_2) := (blk_cell BK377.out 1).trans rfl
                          have hfz40_0 := blk_frozen BK377.out 0
                          have hfz40_1 := blk_frozen BK377.out 1
                          have hcz41_0 : w18.cell? ⟨gb379, 0, none⟩ = some (.int .u8 0) := (blk_cell BK379.out 0).trans rfl
                          have hcz41_1 : w18.cell? ⟨gb379, 1, none⟩ = some (.string (⟨#[]⟩ : ByteArray)) := (blk_cell BK379.out 1).trans rfl
                          have hcz41_2 : w18.cell? ⟨gb379, 2, none⟩ = some (.int .u16 0) := (blk_cell BK379.out 2).trans rfl
                          have hcz41_3 : w18.cell? ⟨gb379, 3, none⟩ = some (.int .u16 0) := (blk_cell BK379.out 3).trans rfl
                          have hfz41_0 := blk_frozen BK379.out 0
                          have hfz41_1 := blk_frozen BK379.out 1
                          have hfz41_2 := blk_frozen BK379.out 2
                          have hfz41_3 := blk_frozen BK379.out 3
                          go_wp2_with (first | ((with_reducible refine gate_callee (f := 21) rfl ?_); refine goesL_ (some 92) rfl rfl Try.func21 (by kernel_rfl) rfl #[.agg #[.string x378000_2, .string x378001_2], .string ((rd_T51 l0 x27_2).f1)] rfl (by (try simp only [List.map_toArray, List.map_cons, List.map_nil]); first | done | rfl | (simp only [List.length_drop, List.length_take]; rfl) | (simp only [decide_eq_true_eq, decide_eq_false_iff_not] at *; congr <;> (first | rfl | (refine (congrArg (Value.int .i64) ?_ : Value.int .i64 _ = Value.int .i64 _); unfold wrap64; omega) | fail)) | fail) ?_; (with_reducible refine (journal_Append.calls k2 x378000_2 x378001_2 ((rd_T51 l0 x27_2).f1) t380 t381 t382 _ A22.out).mono ?_); rintro e w42 ⟨rfl, hb⟩; refine ⟨_, rfl, ?_⟩; have n0_ := Aside0.mk (Kd.R_below (by (with_reducible repeat (first | apply Kd.R_alloc | apply Kd.R_drewN | apply Kd.R_drew)); exact (Kd.R_mono (Kd.R_far (p := ⟨gb379, 3, none⟩) (Kd.R_far (p := ⟨gb379, 2, none⟩) (Kd.R_far (p := ⟨gb379, 1, none⟩) (Kd.R_far (p := ⟨gb379, 0, none⟩) (Kd.R_types HO_4.out BK379.out (by decide)) (fun _ hk => hk.2) (.int .u8 ((rd_T51 l0 x27_2).f0))) (fun _ hk => hk.2) (.string ((rd_T51 l0 x27_2).f1))) (fun _ hk => hk.2) (.int .u16 ((rd_T51 l0 x27_2).f2))) (fun _ hk => hk.2) (.int .u16 ((rd_T51 l0 x27_2).f3))) (fun _ h_ => h_.1))) hb); have n1_ := Aside0.mk (blk_below (g := gb377) (o := .cells #[.string x378000_2, .string x378001_2] 33 (0, 0)) (by (with_reducible repeat (first | refine blk_drewN ?_ _ | refine blk_drew ?_ | refine blk_alloc ?_ _)); refine blk_far ?_ NB377_379.out _; (with_reducible repeat (first | refine blk_drewN ?_ _ | refine blk_drew ?_ | refine blk_alloc ?_ _)); refine blk_far ?_ NB377_379.out _; (with_reducible repeat (first | refine blk_drewN ?_ _ | refine blk_drew ?_ | refine blk_alloc ?_ _)); refine blk_far ?_ NB377_379.out _; (with_reducible repeat (first | refine blk_drewN ?_ _ | refine blk_drew ?_ | refine blk_alloc ?_ _)); refine blk_far ?_ NB377_379.out _; (with_reducible repeat (first | refine blk_drewN ?_ _ | refine blk_drew ?_ | refine blk_alloc ?_ _)); exact BK377.out) hb); have n2_ := Aside0.mk (blk_below (g := gb379) (o := .cells #[.int .u8 ((rd_T51 l0 x27_2).f0), .string ((rd_T51 l0 x27_2).f1), .int .u16 ((rd_T51 l0 x27_2).f2), .int .u16 ((rd_T51 l0 x27_2).f3)] 51 (0, 0)) (by (with_reducible repeat (first | refine blk_drewN ?_ _ | refine blk_drew ?_ | refine blk_alloc ?_ _)); refine blk_put (cs := #[.int .u8 ((rd_T51 l0 x27_2).f0), .string ((rd_T51 l0 x27_2).f1), .int .u16 ((rd_T51 l0 x27_2).f2), .int .u16 0]) ?_ 3 _ rfl; (with_reducible repeat (first | refine blk_drewN ?_ _ | refine blk_drew ?_ | refine blk_alloc ?_ _)); refine blk_put (cs := #[.int .u8 ((rd_T51 l0 x27_2).f0), .string ((rd_T51 l0 x27_2).f1), .int .u16 0, .int .u16 0]) ?_ 2 _ rfl; (with_reducible repeat (first | refine blk_drewN ?_ _ | refine blk_drew ?_ | refine blk_alloc ?_ _)); refine blk_put (cs := #[.int .u8 ((rd_T51 l0 x27_2).f0), .string (⟨#[]⟩ : ByteArray), .int .u16 0, .int .u16 0]) ?_ 1 _ rfl; (with_reducible repeat (first | refine blk_drewN ?_ _ | refine blk_drew ?_ | refine blk_alloc ?_ _)); refine blk_put (cs := #[.int .u8 0, .string (⟨#[]⟩ : ByteArray), .int .u16 0, .int .u16 0]) ?_ 0 _ rfl; (with_reducible repeat (first | refine blk_drewN ?_ _ | refine blk_drew ?_ | refine blk_alloc ?_ _)); exact BK379.out) hb); have n3_ := Aside0.mk (below_step (by repeat (first | (with_reducible first | exact HB.out | apply below_alloc | apply pw_below_drewN | apply below_drew1 | refine below_set ?_ GE377.out | refine below_set ?_ GE379.out) | exact HB.out)) hb); clear HO_4; clear BK377; clear BK379; clear HB; have HO_4 := n0_; have BK377 := n1_; have BK379 := n2_; have HB := n3_; clear n0_ n1_ n2_ n3_; (try clear hb); (try clear hb2); (try clear hk); (try clear hi)) | ((with_reducible refine gate_dst (N := 8) rfl ?_); (try (refine gate_guard (by rfl) ?_; dsimp only)); refine box_event ?hg (N := 8) ?hd (cs := #[.string (⟨#[]⟩ : ByteArray), .string (⟨#[]⟩ : ByteArray)]) (t := 33) ?hr ?_; (case hd => rfl); (case hg => rfl); (case hr => first | (go_simp; done) | (go_simp; rfl)); intro gb383 hg w43 hbox hb; have n0_ := Aside0.mk (Kd.R_below (by (with_reducible repeat (first | apply Kd.R_alloc | apply Kd.R_drewN | apply Kd.R_drew)); exact HO_4.out) hb); have n1_ := Aside0.mk (blk_below (g := gb377) (o := .cells #[.string x378000_2, .string x378001_2] 33 (0, 0)) (by (with_reducible repeat (first | refine blk_drewN ?_ _ | refine blk_drew ?_ | refine blk_alloc ?_ _)); exact BK377.out) hb); have n2_ := Aside0.mk (blk_below (g := gb379) (o := .cells #[.int .u8 ((rd_T51 l0 x27_2).f0), .string ((rd_T51 l0 x27_2).f1), .int .u16 ((rd_T51 l0 x27_2).f2), .int .u16 ((rd_T51 l0 x27_2).f3)] 51 (0, 0)) (by (with_reducible repeat (first | refine blk_drewN ?_ _ | refine blk_drew ?_ | refine blk_alloc ?_ _)); exact BK379.out) hb); have n3_ := Aside0.mk (below_step (by repeat (first | (with_reducible first | exact HB.out | apply below_alloc | apply pw_below_drewN | apply below_drew1 | refine below_set ?_ GE377.out | refine below_set ?_ GE379.out) | exact HB.out)) hb); have n4_ := Aside0.mk (hbox); have n5_ := Aside0.mk ((by rw [hg]; exact (below_size (by repeat (first | (with_reducible first | exact HB.out | apply below_alloc | apply pw_below_drewN | apply below_drew1 | refine below_set ?_ GE377.out | refine below_set ?_ GE379.out) | exact HB.out))) : w.heap.size ≤ gb383)); have n6_ := Aside0.mk ((by rw [hg]; exact (below_size (by repeat (first | (with_reducible first | exact HB.out | apply below_alloc | apply pw_below_drewN | apply below_drew1 | refine below_set ?_ GE377.out | refine below_set ?_ GE379.out) | exact HB.out))) : w.heap.size ≤ gb383)); have n7_ := Aside0.mk ((by rw [hg]; exact Nat.ne_of_lt (blk_lt (g := gb377) (o := .cells #[.string x378000_2, .string x378001_2] 33 (0, 0)) (by (with_reducible repeat (first | refine blk_drewN ?_ _ | refine blk_drew ?_ | refine blk_alloc ?_ _)); exact BK377.out)) : gb377 ≠ gb383)); have n8_ := Aside0.mk ((by rw [hg]; exact Nat.ne_of_gt (blk_lt (g := gb377) (o := .cells #[.string x378000_2, .string x378001_2] 33 (0, 0)) (by (with_reducible repeat (first | refine blk_drewN ?_ _ | refine blk_drew ?_ | refine blk_alloc ?_ _)); exact BK377.out)) : gb383 ≠ gb377)); have n9_ := Aside0.mk ((by rw [hg]; exact Nat.ne_of_lt (blk_lt (g := gb379) (o := .cells #[.int .u8 ((rd_T51 l0 x27_2).f0), .string ((rd_T51 l0 x27_2).f1), .int .u16 ((rd_T51 l0 x27_2).f2), .int .u16 ((rd_T51 l0 x27_2).f3)] 51 (0, 0)) (by (with_reducible repeat (first | refine blk_drewN ?_ _ | refine blk_drew ?_ | refine blk_alloc ?_ _)); exact BK379.out)) : gb379 ≠ gb383)); have n10_ := Aside0.mk ((by rw [hg]; exact Nat.ne_of_gt (blk_lt (g := gb379) (o := .cells #[.int .u8 ((rd_T51 l0 x27_2).f0), .string ((rd_T51 l0 x27_2).f1), .int .u16 ((rd_T51 l0 x27_2).f2), .int .u16 ((rd_T51 l0 x27_2).f3)] 51 (0, 0)) (by (with_reducible repeat (first | refine blk_drewN ?_ _ | refine blk_drew ?_ | refine blk_alloc ?_ _)); exact BK379.out)) : gb383 ≠ gb379)); clear HO_4; clear BK377; clear BK379; clear HB; have HO_4 := n0_; have BK377 := n1_; have BK379 := n2_; have HB := n3_; have BK383 := n4_; have GW383 := n5_; have GE383 := n6_; have NB377_383 := n7_; have NB383_377 := n8_; have NB379_383 := n9_; have NB383_379 := n10_; clear n0_ n1_ n2_ n3_ n4_ n5_ n6_ n7_ n8_ n9_ n10_; clear hb hbox hg; have hnb44 := NB383_377.out; have hnc44 := NB377_383.out; have hnb45 := NB383_379.out; have hnc45 := NB379_383.out; have hcz46_0 : w43.cell? ⟨gb383, 0, none⟩ = some (.string (⟨#[]⟩ : ByteArray)) := (blk_cell BK383.out 0).trans rfl; have hcz46_1 : w43.cell? ⟨gb383, 1, none⟩ = some (.string (⟨#[]⟩ : ByteArray)) := (blk_cell BK383.out 1).trans rfl; have hfz46_0 := blk_frozen BK383.out 0; have hfz46_1 := blk_frozen BK383.out 1; have hcz47_0 : w43.cell? ⟨gb379, 0, none⟩ = some (.int .u8 ((rd_T51 l0 x27_2).f0)) := (blk_cell BK379.out 0).trans rfl; have hcz47_1 : w43.cell? ⟨gb379, 1, none⟩ = some (.string ((rd_T51 l0 x27_2).f1)) := (blk_cell BK379.out 1).trans rfl; have hcz47_2 : w43.cell? ⟨gb379, 2, none⟩ = some (.int .u16 ((rd_T51 l0 x27_2).f2)) := (blk_cell BK379.out 2).trans rfl; have hcz47_3 : w43.cell? ⟨gb379, 3, none⟩ = some (.int .u16 ((rd_T51 l0 x27_2).f3)) := (blk_cell BK379.out 3).trans rfl; have hfz47_0 := blk_frozen BK379.out 0; have hfz47_1 := blk_frozen BK379.out 1; have hfz47_2 := blk_frozen BK379.out 2; have hfz47_3 := blk_frozen BK379.out 3))
                          go_ret
                          exact ⟨by first | rfl | (simp [errW_none, errW_some] <;> rfl) | (simp [*, errW_none, errW_some] <;> rfl), by repeat (first | (with_reducible first | exact HB.out | apply below_alloc | apply pw_below_drewN | apply below_drew1 | refine below_set ?_ GE377.out | refine below_set ?_ GE379.out | refine below_set ?_ GE383.out) | exact HB.out)⟩
                        · rw [if_neg c38] at H
                          have c38b0 : decide (400 < (((rd_T51 l0 x27_2).f1).size : Int)) = false := decide_eq_false c38
                          have c38b1 : decide (400 < ((rd_T51 l0 x27_2).f1).size) = false := decide_eq_false (by omega)
                          clear c38
                          obtain rfl := Option.some.inj H
                          have hnb48 := NB377_379.out
                          have hnc48 := NB379_377.out
                          have hcz49_0 : w18.cell? ⟨gb377, 0, none⟩ = some (.string x378000_2) := (blk_cell BK377.out 0).trans rfl
                          have hcz49_1 : w18.cell? ⟨gb377, 1, none⟩ = some (.string x378001_2) := (blk_cell BK377.out 1).trans rfl
                          have hfz49_0 := blk_frozen BK377.out 0
                          have hfz49_1 := blk_frozen BK377.out 1
                          have hcz50_0 : w18.cell? ⟨gb379, 0, none⟩ = some (.int .u8 0) := (blk_cell BK379.out 0).trans rfl
                          have hcz50_1 : w18.cell? ⟨gb379, 1, none⟩ = some (.string (⟨#[]⟩ : ByteArray)) := (blk_cell BK379.out 1).trans rfl
                          have hcz50_2 : w18.cell? ⟨gb379, 2, none⟩ = some (.int .u16 0) := (blk_cell BK379.out 2).trans rfl
                          have hcz50_3 : w18.cell? ⟨gb379, 3, none⟩ = some (.int .u16 0) := (blk_cell BK379.out 3).trans rfl
                          have hfz50_0 := blk_frozen BK379.out 0
                          have hfz50_1 := blk_frozen BK379.out 1
                          have hfz50_2 := blk_frozen BK379.out 2
                          have hfz50_3 := blk_frozen BK379.out 3
                          go_wp2_with (first | ((with_reducible refine gate_callee (f := 21) rfl ?_); refine goesL_ (some 92) rfl rfl Try.func21 (by kernel_rfl) rfl #[.agg #[.string x378000_2, .string x378001_2], .string ((rd_T51 l0 x27_2).f1)] rfl (by (try simp only [List.map_toArray, List.map_cons, List.map_nil]); first | done | rfl | (simp only [List.length_drop, List.length_take]; rfl) | (simp only [decide_eq_true_eq, decide_eq_false_iff_not] at *; congr <;> (first | rfl | (refine (congrArg (Value.int .i64) ?_ : Value.int .i64 _ = Value.int .i64 _); unfold wrap64; omega) | fail)) | fail) ?_; (with_reducible refine (journal_Append.calls k2 x378000_2 x378001_2 ((rd_T51 l0 x27_2).f1) t380 t381 t382 _ A22.out).mono ?_); rintro e w51 ⟨rfl, hb⟩; refine ⟨_, rfl, ?_⟩; have n0_ := Aside0.mk (Kd.R_below (by (with_reducible repeat (first | apply Kd.R_alloc | apply Kd.R_drewN | apply Kd.R_drew)); exact (Kd.R_mono (Kd.R_far (p := ⟨gb379, 3, none⟩) (Kd.R_far (p := ⟨gb379, 2, none⟩) (Kd.R_far (p := ⟨gb379, 1, none⟩) (Kd.R_far (p := ⟨gb379, 0, none⟩) (Kd.R_types HO_4.out BK379.out (by decide)) (fun _ hk => hk.2) (.int .u8 ((rd_T51 l0 x27_2).f0))) (fun _ hk => hk.2) (.string ((rd_T51 l0 x27_2).f1))) (fun _ hk => hk.2) (.int .u16 ((rd_T51 l0 x27_2).f2))) (fun _ hk => hk.2) (.int .u16 ((rd_T51 l0 x27_2).f3))) (fun _ h_ => h_.1))) hb); have n1_ := Aside0.mk (blk_below (g := gb377) (o := .cells #[.string x378000_2, .string x378001_2] 33 (0, 0)) (by (with_reducible repeat (first | refine blk_drewN ?_ _ | refine blk_drew ?_ | refine blk_alloc ?_ _)); refine blk_far ?_ NB377_379.out _; (with_reducible repeat (first | refine blk_drewN ?_ _ | refine blk_drew ?_ | refine blk_alloc ?_ _)); refine blk_far ?_ NB377_379.out _; (with_reducible repeat (first | refine blk_drewN ?_ _ | refine blk_drew ?_ | refine blk_alloc ?_ _)); refine blk_far ?_ NB377_379.out _; (with_reducible repeat (first | refine blk_drewN ?_ _ | refine blk_drew ?_ | refine blk_alloc ?_ _)); refine blk_far ?_ NB377_379.out _; (with_reducible repeat (first | refine blk_drewN ?_ _ | refine blk_drew ?_ | refine blk_alloc ?_ _)); exact BK377.out) hb); have n2_ := Aside0.mk (blk_below (g := gb379) (o := .cells #[.int .u8 ((rd_T51 l0 x27_2).f0), .string ((rd_T51 l0 x27_2).f1), .int .u16 ((rd_T51 l0 x27_2).f2), .int .u16 ((rd_T51 l0 x27_2).f3)] 51 (0, 0)) (by (with_reducible repeat (first | refine blk_drewN ?_ _ | refine blk_drew ?_ | refine blk_alloc ?_ _)); refine blk_put (cs := #[.int .u8 ((rd_T51 l0 x27_2).f0), .string ((rd_T51 l0 x27_2).f1), .int .u16 ((rd_T51 l0 x27_2).f2), .int .u16 0]) ?_ 3 _ rfl; (with_reducible repeat (first | refine blk_drewN ?_ _ | refine blk_drew ?_ | refine blk_alloc ?_ _)); refine blk_put (cs := #[.int .u8 ((rd_T51 l0 x27_2).f0), .string ((rd_T51 l0 x27_2).f1), .int .u16 0, .int .u16 0]) ?_ 2 _ rfl; (with_reducible repeat (first | refine blk_drewN ?_ _ | refine blk_drew ?_ | refine blk_alloc ?_ _)); refine blk_put (cs := #[.int .u8 ((rd_T51 l0 x27_2).f0), .string (⟨#[]⟩ : ByteArray), .int .u16 0, .int .u16 0]) ?_ 1 _ rfl; (with_reducible repeat (first | refine blk_drewN ?_ _ | refine blk_drew ?_ | refine blk_alloc ?_ _)); refine blk_put (cs := #[.int .u8 0, .string (⟨#[]⟩ : ByteArray), .int .u16 0, .int .u16 0]) ?_ 0 _ rfl; (with_reducible repeat (first | refine blk_drewN ?_ _ | refine blk_drew ?_ | refine blk_alloc ?_ _)); exact BK379.out) hb); have n3_ := Aside0.mk (below_step (by repeat (first | (with_reducible first | exact HB.out | apply below_alloc | apply pw_below_drewN | apply below_drew1 | refine below_set ?_ GE377.out | refine below_set ?_ GE379.out) | exact HB.out)) hb); clear HO_4; clear BK377; clear BK379; clear HB; have HO_4 := n0_; have BK377 := n1_; have BK379 := n2_; have HB := n3_; clear n0_ n1_ n2_ n3_; (try clear hb); (try clear hb2); (try clear hk); (try clear hi)) | ((with_reducible refine gate_dst (N := 8) rfl ?_); (try (refine gate_guard (by rfl) ?_; dsimp only)); refine box_event ?hg (N := 8) ?hd (cs := #[.string (⟨#[]⟩ : ByteArray), .string (⟨#[]⟩ : ByteArray)]) (t := 33) ?hr ?_; (case hd => rfl); (case hg => rfl); (case hr => first | (go_simp; done) | (go_simp; rfl)); intro gb383 hg w52 hbox hb; have n0_ := Aside0.mk (Kd.R_below (by (with_reducible repeat (first | apply Kd.R_alloc | apply Kd.R_drewN | apply Kd.R_drew)); exact HO_4.out) hb); have n1_ := Aside0.mk (blk_below (g := gb377) (o := .cells #[.string x378000_2, .string x378001_2] 33 (0, 0)) (by (with_reducible repeat (first | refine blk_drewN ?_ _ | refine blk_drew ?_ | refine blk_alloc ?_ _)); exact BK377.out) hb); have n2_ := Aside0.mk (blk_below (g := gb379) (o := .cells #[.int .u8 ((rd_T51 l0 x27_2).f0), .string ((rd_T51 l0 x27_2).f1), .int .u16 ((rd_T51 l0 x27_2).f2), .int .u16 ((rd_T51 l0 x27_2).f3)] 51 (0, 0)) (by (with_reducible repeat (first | refine blk_drewN ?_ _ | refine blk_drew ?_ | refine blk_alloc ?_ _)); exact BK379.out) hb); have n3_ := Aside0.mk (below_step (by repeat (first | (with_reducible first | exact HB.out | apply below_alloc | apply pw_below_drewN | apply below_drew1 | refine below_set ?_ GE377.out | refine below_set ?_ GE379.out) | exact HB.out)) hb); have n4_ := Aside0.mk (hbox); have n5_ := Aside0.mk ((by rw [hg]; exact (below_size (by repeat (first | (with_reducible first | exact HB.out | apply below_alloc | apply pw_below_drewN | apply below_drew1 | refine below_set ?_ GE377.out | refine below_set ?_ GE379.out) | exact HB.out))) : w.heap.size ≤ gb383)); have n6_ := Aside0.mk ((by rw [hg]; exact (below_size (by repeat (first | (with_reducible first | exact HB.out | apply below_alloc | apply pw_below_drewN | apply below_drew1 | refine below_set ?_ GE377.out | refine below_set ?_ GE379.out) | exact HB.out))) : w.heap.size ≤ gb383)); have n7_ := Aside0.mk ((by rw [hg]; exact Nat.ne_of_lt (blk_lt (g := gb377) (o := .cells #[.string x378000_2, .string x378001_2] 33 (0, 0)) (by (with_reducible repeat (first | refine blk_drewN ?_ _ | refine blk_drew ?_ | refine blk_alloc ?_ _)); exact BK377.out)) : gb377 ≠ gb383)); have n8_ := Aside0.mk ((by rw [hg]; exact Nat.ne_of_gt (blk_lt (g := gb377) (o := .cells #[.string x378000_2, .string x378001_2] 33 (0, 0)) (by (with_reducible repeat (first | refine blk_drewN ?_ _ | refine blk_drew ?_ | refine blk_alloc ?_ _)); exact BK377.out)) : gb383 ≠ gb377)); have n9_ := Aside0.mk ((by rw [hg]; exact Nat.ne_of_lt (blk_lt (g := gb379) (o := .cells #[.int .u8 ((rd_T51 l0 x27_2).f0), .string ((rd_T51 l0 x27_2).f1), .int .u16 ((rd_T51 l0 x27_2).f2), .int .u16 ((rd_T51 l0 x27_2).f3)] 51 (0, 0)) (by (with_reducible repeat (first | refine blk_drewN ?_ _ | refine blk_drew ?_ | refine blk_alloc ?_ _)); exact BK379.out)) : gb379 ≠ gb383)); have n10_ := Aside0.mk ((by rw [hg]; exact Nat.ne_of_gt (blk_lt (g := gb379) (o := .cells #[.int .u8 ((rd_T51 l0 x27_2).f0), .string ((rd_T51 l0 x27_2).f1), .int .u16 ((rd_T51 l0 x27_2).f2), .int .u16 ((rd_T51 l0 x27_2).f3)] 51 (0, 0)) (by (with_reducible repeat (first | refine blk_drewN ?_ _ | refine blk_drew ?_ | refine blk_alloc ?_ _)); exact BK379.out)) : gb383 ≠ gb379)); clear HO_4; clear BK377; clear BK379; clear HB; have HO_4 := n0_; have BK377 := n1_; have BK379 := n2_; have HB := n3_; have BK383 := n4_; have GW383 := n5_; have GE383 := n6_; have NB377_383 := n7_; have NB383_377 := n8_; have NB379_383 := n9_; have NB383_379 := n10_; clear n0_ n1_ n2_ n3_ n4_ n5_ n6_ n7_ n8_ n9_ n10_; clear hb hbox hg; have hnb53 := NB383_377.out; have hnc53 := NB377_383.out; have hnb54 := NB383_379.out; have hnc54 := NB379_383.out; have hcz55_0 : w52.cell? ⟨gb383, 0, none⟩ = some (.string (⟨#[]⟩ : ByteArray)) := (blk_cell BK383.out 0).trans rfl; have hcz55_1 : w52.cell? ⟨gb383, 1, none⟩ = some (.string (⟨#[]⟩ : ByteArray)) := (blk_cell BK383.out 1).trans rfl; have hfz55_0 := blk_frozen BK383.out 0; have hfz55_1 := blk_frozen BK383.out 1; have hcz56_0 : w52.cell? ⟨gb379, 0, none⟩ = some (.int .u8 ((rd_T51 l0 x27_2).f0)) := (blk_cell BK379.out 0).trans rfl; have hcz56_1 : w52.cell? ⟨gb379, 1, none⟩ = some (.string ((rd_T51 l0 x27_2).f1)) := (blk_cell BK379.out 1).trans rfl; have hcz56_2 : w52.cell? ⟨gb379, 2, none⟩ = some (.int .u16 ((rd_T51 l0 x27_2).f2)) := (blk_cell BK379.out 2).trans rfl; have hcz56_3 : w52.cell? ⟨gb379, 3, none⟩ = some (.int .u16 ((rd_T51 l0 x27_2).f3)) := (blk_cell BK379.out 3).trans rfl; have hfz56_0 := blk_frozen BK379.out 0; have hfz56_1 := blk_frozen BK379.out 1; have hfz56_2 := blk_frozen BK379.out 2; have hfz56_3 := blk_frozen BK379.out 3))
                          go_ret
                          exact ⟨by first | rfl | (simp [errW_none, errW_some] <;> rfl) | (simp [*, errW_none, errW_some] <;> rfl), by repeat (first | (with_reducible first | exact HB.out | apply below_alloc | apply pw_below_drewN | apply below_drew1 | refine below_set ?_ GE377.out | refine below_set ?_ GE379.out | refine below_set ?_ GE383.out) | exact HB.out)⟩
                    · rw [if_neg c21] at H
                      have c21b0 : ((Int.tmod ((rd_T51 l0 x27_2).f0) 3) == 0) = false := beq_eq_false_iff_ne.mpr c21
                      have c21b1 : ((Int.tmod ((rd_T51 l0 x27_2).f0) 3) != 0) = true := bne_iff_ne.mpr c21
                      (first | rw [c21b0] | (simp only [i64_w, i32_w]; rw [c21b0]) | skip)
                      by_cases c57 : (Int.tmod ((rd_T51 l0 x27_2).f0) 3) = 1
                      · rw [if_pos c57] at H
                        have c57b0 : ((Int.tmod ((rd_T51 l0 x27_2).f0) 3) == 1) = true := beq_iff_eq.mpr c57
                        have c57b1 : ((Int.tmod ((rd_T51 l0 x27_2).f0) 3) != 1) = false := bne_eq_false_iff_eq.mpr c57
                        clear c57
                        replace H := Option.bind_eq_some_iff.mp H
                        obtain ⟨⟨t387, t388⟩, A580, H⟩ := H
                        replace H : (ancepslaw56_JournalRuns.j4 k2 x4_2 (x4_2.length : Int) l0 (l0.length : Int) x27_2 t387 t388) = some r := H
                        have A58 := Aside0.mk A580
                        clear A580
                        have H' := Aside0.mk H
                        clear H
                        have hnb59 := NB377_379.out
                        have hnc59 := NB379_377.out
                        have hcz60_0 : w18.cell? ⟨gb377, 0, none⟩ = some (.string x378000_2) := (blk_cell BK377.out 0).trans rfl
                        have hcz60_1 : w18.cell? ⟨gb377, 1, none⟩ = some (.string x378001_2) := (blk_cell BK377.out 1).trans rfl
                        have hfz60_0 := blk_frozen BK377.out 0
                        have hfz60_1 := blk_frozen BK377.out 1
                        go_wp2_with (first | ((with_reducible refine gate_callee (f := 23) rfl ?_); refine goesL_ (some 114) rfl rfl Try.func23 (by kernel_rfl) rfl #[.agg #[.string x378000_2, .string x378001_2]] rfl (by (try simp only [List.map_toArray, List.map_cons, List.map_nil]); first | done | rfl | (simp only [List.length_drop, List.length_take]; rfl) | (simp only [decide_eq_true_eq, decide_eq_false_iff_not] at *; congr <;> (first | rfl | (refine (congrArg (Value.int .i64) ?_ : Value.int .i64 _ = Value.int .i64 _); unfold wrap64; omega) | fail)) | fail) ?_; (with_reducible refine (journal_Sync.calls x378000_2 x378001_2 t387 t388 _ A58.out).mono ?_); rintro e w61 ⟨rfl, hb⟩; refine ⟨_, rfl, ?_⟩; have n0_ := Aside0.mk (Kd.R_below (by (with_reducible repeat (first | apply Kd.R_alloc | apply Kd.R_drewN | apply Kd.R_drew)); exact (Kd.R_mono (Kd.R_far (p := ⟨gb379, 3, none⟩) (Kd.R_far (p := ⟨gb379, 2, none⟩) (Kd.R_far (p := ⟨gb379, 1, none⟩) (Kd.R_far (p := ⟨gb379, 0, none⟩) (Kd.R_types HO_4.out BK379.out (by decide)) (fun _ hk => hk.2) (.int .u8 ((rd_T51 l0 x27_2).f0))) (fun _ hk => hk.2) (.string ((rd_T51 l0 x27_2).f1))) (fun _ hk => hk.2) (.int .u16 ((rd_T51 l0 x27_2).f2))) (fun _ hk => hk.2) (.int .u16 ((rd_T51 l0 x27_2).f3))) (fun _ h_ => h_.1))) hb); have n1_ := Aside0.mk (blk_below (g := gb377) (o := .cells #[.string x378000_2, .string x378001_2] 33 (0, 0)) (by (with_reducible repeat (first | refine blk_drewN ?_ _ | refine blk_drew ?_ | refine blk_alloc ?_ _)); refine blk_far ?_ NB377_379.out _; (with_reducible repeat (first | refine blk_drewN ?_ _ | refine blk_drew ?_ | refine blk_alloc ?_ _)); refine blk_far ?_ NB377_379.out _; (with_reducible repeat (first | refine blk_drewN ?_ _ | refine blk_drew ?_ | refine blk_alloc ?_ _)); refine blk_far ?_ NB377_379.out _; (with_reducible repeat (first | refine blk_drewN ?_ _ | refine blk_drew ?_ | refine blk_alloc ?_ _)); refine blk_far ?_ NB377_379.out _; (with_reducible repeat (first | refine blk_drewN ?_ _ | refine blk_drew ?_ | refine blk_alloc ?_ _)); exact BK377.out) hb); have n2_ := Aside0.mk (blk_below (g := gb379) (o := .cells #[.int .u8 ((rd_T51 l0 x27_2).f0), .string ((rd_T51 l0 x27_2).f1), .int .u16 ((rd_T51 l0 x27_2).f2), .int .u16 ((rd_T51 l0 x27_2).f3)] 51 (0, 0)) (by (with_reducible repeat (first | refine blk_drewN ?_ _ | refine blk_drew ?_ | refine blk_alloc ?_ _)); refine blk_put (cs := #[.int .u8 ((rd_T51 l0 x27_2).f0), .string ((rd_T51 l0 x27_2).f1), .int .u16 ((rd_T51 l0 x27_2).f2), .int .u16 0]) ?_ 3 _ rfl; (with_reducible repeat (first | refine blk_drewN ?_ _ | refine blk_drew ?_ | refine blk_alloc ?_ _)); refine blk_put (cs := #[.int .u8 ((rd_T51 l0 x27_2).f0), .string ((rd_T51 l0 x27_2).f1), .int .u16 0, .int .u16 0]) ?_ 2 _ rfl; (with_reducible repeat (first | refine blk_drewN ?_ _ | refine blk_drew ?_ | refine blk_alloc ?_ _)); refine blk_put (cs := #[.int .u8 ((rd_T51 l0 x27_2).f0), .string (⟨#[]⟩ : ByteArray), .int .u16 0, .int .u16 0]) ?_ 1 _ rfl; (with_reducible repeat (first | refine blk_drewN ?_ _ | refine blk_drew ?_ | refine blk_alloc ?_ _)); refine blk_put (cs := #[.int .u8 0, .string (⟨#[]⟩ : ByteArray), .int .u16 0, .int .u16 0]) ?_ 0 _ rfl; (with_reducible repeat (first | refine blk_drewN ?_ _ | refine blk_drew ?_ | refine blk_alloc ?_ _)); exact BK379.out) hb); have n3_ := Aside0.mk (below_step (by repeat (first | (with_reducible first | exact HB.out | apply below_alloc | apply pw_below_drewN | apply below_drew1 | refine below_set ?_ GE377.out | refine below_set ?_ GE379.out) | exact HB.out)) hb); clear HO_4; clear BK377; clear BK379; clear HB; have HO_4 := n0_; have BK377 := n1_; have BK379 := n2_; have HB := n3_; clear n0_ n1_ n2_ n3_; (try clear hb); (try clear hb2); (try clear hk); (try clear hi); obtain ⟨Ao62, co62, eo62⟩ := Kd.R_slice HO_4.out; subst eo62; have hcz63_0 : w61.cell? ⟨gb377, 0, none⟩ = some (.string x378000_2) := (blk_cell BK377.out 0).trans rfl; have hcz63_1 : w61.cell? ⟨gb377, 1, none⟩ = some (.string x378001_2) := (blk_cell BK377.out 1).trans rfl; have hfz63_0 := blk_frozen BK377.out 0; have hfz63_1 := blk_frozen BK377.out 1))
                        go_meet
                        case rel => exact ⟨_, (x4_2), ((x4_2.length : Int)), (t387), (t388), (by first | rfl | (simp; done) | (simp [*]; done)), H', ⟨by have := HJ1.out; have := HK2.out; first | omega | exact Nat.le_refl _⟩, ⟨by (with_reducible repeat (first | apply Kd.R_alloc | apply Kd.R_drewN | apply Kd.R_drew)); exact Kd.R_mono (Kd.R_far (p := ⟨gb377, 1, none⟩) (Kd.R_far (p := ⟨gb377, 0, none⟩) (Kd.R_types HO_4.out BK377.out (by decide)) (fun _ hk => hk.2) (.string t387)) (fun _ hk => hk.2) (.string t388)) (fun _ hk => trivial)⟩, ⟨by (with_reducible repeat (first | refine blk_drewN ?_ _ | refine blk_drew ?_ | refine blk_alloc ?_ _)); refine blk_put (cs := #[.string t387, .string x378001_2]) ?_ 1 _ rfl; (with_reducible repeat (first | refine blk_drewN ?_ _ | refine blk_drew ?_ | refine blk_alloc ?_ _)); refine blk_put (cs := #[.string x378000_2, .string x378001_2]) ?_ 0 _ rfl; (with_reducible repeat (first | refine blk_drewN ?_ _ | refine blk_drew ?_ | refine blk_alloc ?_ _)); exact BK377.out⟩, ⟨by (with_reducible repeat (first | refine blk_drewN ?_ _ | refine blk_drew ?_ | refine blk_alloc ?_ _)); refine blk_far ?_ NB379_377.out _; (with_reducible repeat (first | refine blk_drewN ?_ _ | refine blk_drew ?_ | refine blk_alloc ?_ _)); refine blk_far ?_ NB379_377.out _; (with_reducible repeat (first | refine blk_drewN ?_ _ | refine blk_drew ?_ | refine blk_alloc ?_ _)); exact BK379.out⟩, ⟨by repeat (first | (with_reducible first | exact HB.out | apply below_alloc | apply pw_below_drewN | apply below_drew1 | refine below_set ?_ GE377.out | refine below_set ?_ GE379.out) | exact HB.out)⟩⟩
                      · rw [if_neg c57] at H
                        have c57b0 : ((Int.tmod ((rd_T51 l0 x27_2).f0) 3) == 1) = false := beq_eq_false_iff_ne.mpr c57
                        have c57b1 : ((Int.tmod ((rd_T51 l0 x27_2).f0) 3) != 1) = true := bne_iff_ne.mpr c57
                        by_cases c64 : (wrap64 ((x378001_2.size : Int) + 1)) = 0
                        · rw [if_pos c64] at H
                          exact absurd H (by simp)
                        · rw [if_neg c64] at H
                          have c64b0 : ((wrap64 ((x378001_2.size : Int) + 1)) == 0) = false := beq_eq_false_iff_ne.mpr c64
                          have c64b1 : ((wrap64 ((x378001_2.size : Int) + 1)) != 0) = true := bne_iff_ne.mpr c64
                          have HC65 := Aside0.mk H
                          clear H
                          have hnb66 := NB379_377.out
                          have hnc66 := NB377_379.out
                          have hcz67_0 : w18.cell? ⟨gb379, 0, none⟩ = some (.int .u8 0) := (blk_cell BK379.out 0).trans rfl
                          have hcz67_1 : w18.cell? ⟨gb379, 1, none⟩ = some (.string (⟨#[]⟩ : ByteArray)) := (blk_cell BK379.out 1).trans rfl
                          have hcz67_2 : w18.cell? ⟨gb379, 2, none⟩ = some (.int .u16 0) := (blk_cell BK379.out 2).trans rfl
                          have hcz67_3 : w18.cell? ⟨gb379, 3, none⟩ = some (.int .u16 0) := (blk_cell BK379.out 3).trans rfl
                          have hfz67_0 := blk_frozen BK379.out 0
                          have hfz67_1 := blk_frozen BK379.out 1
                          have hfz67_2 := blk_frozen BK379.out 2
                          have hfz67_3 := blk_frozen BK379.out 3
                          have hcz68_0 : w18.cell? ⟨gb377, 0, none⟩ = some (.string x378000_2) := (blk_cell BK377.out 0).trans rfl
                          have hcz68_1 : w18.cell? ⟨gb377, 1, none⟩ = some (.string x378001_2) := (blk_cell BK377.out 1).trans rfl
                          have hfz68_0 := blk_frozen BK377.out 0
                          have hfz68_1 := blk_frozen BK377.out 1
                          go_upto_region 11 with (fail)
                          go_cut [49] (fun v49 wc => ∃ (kq : Nat) (x49_64 : Bool), v49 = .bool x49_64 ∧ Aside0 (ancepslaw56_JournalRuns.j2 kq x4_2 x5_2 (Int.tmod (wrap64 ((rd_T51 l0 x27_2).f2)) (wrap64 ((x378001_2.size : Int) + 1))) (-1) l0 (l0.length : Int) x27_2 x49_64 x378000_2 x378001_2 ((rd_T51 l0 x27_2).f0) ((rd_T51 l0 x27_2).f1) ((rd_T51 l0 x27_2).f2) ((rd_T51 l0 x27_2).f3) = some r) ∧ Aside0 (kq ≤ k2) ∧ Aside0 (Kd.R Kd.string 9 wc w.heap.size (fun _ => True) u4 x4_2) ∧ Aside0 (wc.heap[gb377]? = some (.cells #[.string x378000_2, .string x378001_2] 33 (0, 0))) ∧ Aside0 (wc.heap[gb379]? = some (.cells #[.int .u8 ((rd_T51 l0 x27_2).f0), .string ((rd_T51 l0 x27_2).f1), .int .u16 ((rd_T51 l0 x27_2).f2), .int .u16 ((rd_T51 l0 x27_2).f3)] 51 (0, 0))) ∧ Aside0 (Below w.heap.size w wc))
                          case first =>
                            have H := HC65.out
                            clear HC65
                            by_cases c69 : (Int.tmod (wrap64 ((rd_T51 l0 x27_2).f2)) (wrap64 ((x378001_2.size : Int) + 1))) > 0
                            · rw [if_pos c69] at H
                              have c69b0 : decide (0 < (Int.tmod (wrap64 ((rd_T51 l0 x27_2).f2)) (wrap64 ((x378001_2.size : Int) + 1)))) = true := decide_eq_true c69
                              clear c69
                              (first | rw [c69b0] | (simp only [i64_w, i32_w]; rw [c69b0]) | skip)
                              have H' := Aside0.mk H
                              clear H
                              have hnb70 := NB379_377.out
                              have hnc70 := NB377_379.out
                              have hcz71_0 : w18.cell? ⟨gb379, 0, none⟩ = some (.int .u8 0) := (blk_cell BK379.out 0).trans rfl
                              have hcz71_1 : w18.cell? ⟨gb379, 1, none⟩ = some (.string (⟨#[]⟩ : ByteArray)) := (blk_cell BK379.out 1).trans rfl
                              have hcz71_2 : w18.cell? ⟨gb379, 2, none⟩ = some (.int .u16 0) := (blk_cell BK379.out 2).trans rfl
                              have hcz71_3 : w18.cell? ⟨gb379, 3, none⟩ = some (.int .u16 0) := (blk_cell BK379.out 3).trans rfl
                              have hfz71_0 := blk_frozen BK379.out 0
                              have hfz71_1 := blk_frozen BK379.out 1
                              have hfz71_2 := blk_frozen BK379.out 2
                              have hfz71_3 := blk_frozen BK379.out 3
                              go_wp2
                              go_meet
                              case rel => exact ⟨_, (decide ((Int.tmod ((rd_T51 l0 x27_2).f3) 3) > 0)), (by first | rfl | (simp; done) | (simp [*]; done)), H', ⟨by have := HJ1.out; have := HK2.out; first | omega | exact Nat.le_refl _⟩, ⟨by (with_reducible repeat (first | apply Kd.R_alloc | apply Kd.R_drewN | apply Kd.R_drew)); exact Kd.R_mono (Kd.R_far (p := ⟨gb379, 3, none⟩) (Kd.R_far (p := ⟨gb379, 2, none⟩) (Kd.R_far (p := ⟨gb379, 1, none⟩) (Kd.R_far (p := ⟨gb379, 0, none⟩) (Kd.R_types HO_4.out BK379.out (by decide)) (fun _ hk => hk.2) (.int .u8 ((rd_T51 l0 x27_2).f0))) (fun _ hk => hk.2) (.string ((rd_T51 l0 x27_2).f1))) (fun _ hk => hk.2) (.int .u16 ((rd_T51 l0 x27_2).f2))) (fun _ hk => hk.2) (.int .u16 ((rd_T51 l0 x27_2).f3))) (fun _ hk => trivial)⟩, ⟨by (with_reducible repeat (first | refine blk_drewN ?_ _ | refine blk_drew ?_ | refine blk_alloc ?_ _)); refine blk_far ?_ NB377_379.out _; (with_reducible repeat (first | refine blk_drewN ?_ _ | refine blk_drew ?_ | refine blk_alloc ?_ _)); refine blk_far ?_ NB377_379.out _; (with_reducible repeat (first | refine blk_drewN ?_ _ | refine blk_drew ?_ | refine blk_alloc ?_ _)); refine blk_far ?_ NB377_379.out _; (with_reducible repeat (first | refine blk_drewN ?_ _ | refine blk_drew ?_ | refine blk_alloc ?_ _)); refine blk_far ?_ NB377_379.out _; (with_reducible repeat (first | refine blk_drewN ?_ _ | refine blk_drew ?_ | refine blk_alloc ?_ _)); exact BK377.out⟩, ⟨by (with_reducible repeat (first | refine blk_drewN ?_ _ | refine blk_drew ?_ | refine blk_alloc ?_ _)); refine blk_put (cs := #[.int .u8 ((rd_T51 l0 x27_2).f0), .string ((rd_T51 l0 x27_2).f1), .int .u16 ((rd_T51 l0 x27_2).f2), .int .u16 0]) ?_ 3 _ rfl; (with_reducible repeat (first | refine blk_drewN ?_ _ | refine blk_drew ?_ | refine blk_alloc ?_ _)); refine blk_put (cs := #[.int .u8 ((rd_T51 l0 x27_2).f0), .string ((rd_T51 l0 x27_2).f1), .int .u16 0, .int .u16 0]) ?_ 2 _ rfl; (with_reducible repeat (first | refine blk_drewN ?_ _ | refine blk_drew ?_ | refine blk_alloc ?_ _)); refine blk_put (cs := #[.int .u8 ((rd_T51 l0 x27_2).f0), .string (⟨#[]⟩ : ByteArray), .int .u16 0, .int .u16 0]) ?_ 1 _ rfl; (with_reducible repeat (first | refine blk_drewN ?_ _ | refine blk_drew ?_ | refine blk_alloc ?_ _)); refine blk_put (cs := #[.int .u8 0, .string (⟨#[]⟩ : ByteArray), .int .u16 0, .int .u16 0]) ?_ 0 _ rfl; (with_reducible repeat (first | refine blk_drewN ?_ _ | refine blk_drew ?_ | refine blk_alloc ?_ _)); exact BK379.out⟩, ⟨by repeat (first | (with_reducible first | exact HB.out | apply below_alloc | apply pw_below_drewN | apply below_drew1 | refine below_set ?_ GE377.out | refine below_set ?_ GE379.out) | exact HB.out)⟩⟩
                            · rw [if_neg c69] at H
                              have c69b0 : decide (0 < (Int.tmod (wrap64 ((rd_T51 l0 x27_2).f2)) (wrap64 ((x378001_2.size : Int) + 1)))) = false := decide_eq_false c69
                              clear c69
                              (first | rw [c69b0] | (simp only [i64_w, i32_w]; rw [c69b0]) | skip)
                              have H' := Aside0.mk H
                              clear H
                              go_wp2
                              go_meet
                              case rel => exact ⟨_, (false), (by first | rfl | (simp; done) | (simp [*]; done)), H', ⟨by have := HJ1.out; have := HK2.out; first | omega | exact Nat.le_refl _⟩, ⟨by (with_reducible repeat (first | apply Kd.R_alloc | apply Kd.R_drewN | apply Kd.R_drew)); exact Kd.R_mono (Kd.R_far (p := ⟨gb379, 3, none⟩) (Kd.R_far (p := ⟨gb379, 2, none⟩) (Kd.R_far (p := ⟨gb379, 1, none⟩) (Kd.R_far (p := ⟨gb379, 0, none⟩) (Kd.R_types HO_4.out BK379.out (by decide)) (fun _ hk => hk.2) (.int .u8 ((rd_T51 l0 x27_2).f0))) (fun _ hk => hk.2) (.string ((rd_T51 l0 x27_2).f1))) (fun _ hk => hk.2) (.int .u16 ((rd_T51 l0 x27_2).f2))) (fun _ hk => hk.2) (.int .u16 ((rd_T51 l0 x27_2).f3))) (fun _ hk => trivial)⟩, ⟨by (with_reducible repeat (first | refine blk_drewN ?_ _ | refine blk_drew ?_ | refine blk_alloc ?_ _)); refine blk_far ?_ NB377_379.out _; (with_reducible repeat (first | refine blk_drewN ?_ _ | refine blk_drew ?_ | refine blk_alloc ?_ _)); refine blk_far ?_ NB377_379.out _; (with_reducible repeat (first | refine blk_drewN ?_ _ | refine blk_drew ?_ | refine blk_alloc ?_ _)); refine blk_far ?_ NB377_379.out _; (with_reducible repeat (first | refine blk_drewN ?_ _ | refine blk_drew ?_ | refine blk_alloc ?_ _)); refine blk_far ?_ NB377_379.out _; (with_reducible repeat (first | refine blk_drewN ?_ _ | refine blk_drew ?_ | refine blk_alloc ?_ _)); exact BK377.out⟩, ⟨by (with_reducible repeat (first | refine blk_drewN ?_ _ | refine blk_drew ?_ | refine blk_alloc ?_ _)); refine blk_put (cs := #[.int .u8 ((rd_T51 l0 x27_2).f0), .string ((rd_T51 l0 x27_2).f1), .int .u16 ((rd_T51 l0 x27_2).f2), .int .u16 0]) ?_ 3 _ rfl; (with_reducible repeat (first | refine blk_drewN ?_ _ | refine blk_drew ?_ | refine blk_alloc ?_ _)); refine blk_put (cs := #[.int .u8 ((rd_T51 l0 x27_2).f0), .string ((rd_T51 l0 x27_2).f1), .int .u16 0, .int .u16 0]) ?_ 2 _ rfl; (with_reducible repeat (first | refine blk_drewN ?_ _ | refine blk_drew ?_ | refine blk_alloc ?_ _)); refine blk_put (cs := #[.int .u8 ((rd_T51 l0 x27_2).f0), .string (⟨#[]⟩ : ByteArray), .int .u16 0, .int .u16 0]) ?_ 1 _ rfl; (with_reducible repeat (first | refine blk_drewN ?_ _ | refine blk_drew ?_ | refine blk_alloc ?_ _)); refine blk_put (cs := #[.int .u8 0, .string (⟨#[]⟩ : ByteArray), .int .u16 0, .int .u16 0]) ?_ 0 _ rfl; (with_reducible repeat (first | refine blk_drewN ?_ _ | refine blk_drew ?_ | refine blk_alloc ?_ _)); exact BK379.out⟩, ⟨by repeat (first | (with_reducible first | exact HB.out | apply below_alloc | apply pw_below_drewN | apply below_drew1 | refine below_set ?_ GE377.out | refine below_set ?_ GE379.out) | exact HB.out)⟩⟩
                          case rest =>
                            clear HC65
                            try clear c1
                            try clear c2
                            try clear p2
                            try clear c3
                            try clear p3
                            try clear q3
                            try clear hx3
                            try clear c4
                            try clear c5
                            try clear c6
                            try clear p6
                            try clear c7
                            try clear c10
                            try clear c11
                            try clear c14
                            try clear c14b0
                            try clear c15
                            try clear c15b0
                            try clear c16
                            try clear c16b0
                            try clear c19
                            try clear c21
                            try clear c21b0
                            try clear c21b1
                            try clear c23
                            try clear c23b0
                            try clear c23b1
                            try clear c24
                            try clear c25
                            try clear c30
                            try clear c31
                            try clear p37
                            try clear q37
                            try clear hx37
                            try clear c38
                            try clear c38b0
                            try clear c38b1
                            try clear c39
                            try clear c44
                            try clear c45
                            try clear c48
                            try clear c53
                            try clear c54
                            try clear c57
                            try clear c57b0
                            try clear c57b1
                            try clear c59
                            try clear c64
                            try clear c64b0
                            try clear c64b1
                            try clear p64
                            try clear c66
                            try clear c69
                            try clear c69b0
                            try clear c70
                            try clear hcz13_0
                            try clear hcz13_1
                            try clear hcz20_0
                            try clear hcz20_1
                            try clear hcz20_2
                            try clear hcz20_3
                            try clear hcz26_0
                            try clear hcz26_1
                            try clear hcz27_0
                            try clear hcz27_1
                            try clear hcz27_2
                            try clear hcz27_3
                            try clear hcz32_0
                            try clear hcz32_1
                            try clear hcz40_0
                            try clear hcz40_1
                            try clear hcz41_0
                            try clear hcz41_1
                            try clear hcz41_2
                            try clear hcz41_3
                            try clear hcz46_0
                            try clear hcz46_1
                            try clear hcz47_0
                            try clear hcz47_1
                            try clear hcz47_2
                            try clear hcz47_3
                            try clear hcz49_0
                            try clear hcz49_1
                            try clear hcz50_0
                            try clear hcz50_1
                            try clear hcz50_2
                            try clear hcz50_3
                            try clear hcz55_0
                            try clear hcz55_1
                            try clear hcz56_0
                            try clear hcz56_1
                            try clear hcz56_2
                            try clear hcz56_3
                            try clear hcz60_0
                            try clear hcz60_1
                            try clear hcz63_0
                            try clear hcz63_1
                            try clear hcz67_0
                            try clear hcz67_1
                            try clear hcz67_2
                            try clear hcz67_3
                            try clear hcz68_0
                            try clear hcz68_1
                            try clear hcz71_0
                            try clear hcz71_1
                            try clear hcz71_2
                            try clear hcz71_3
                            try clear hfz13_0
                            try clear hfz13_1
                            try clear hfz20_0
                            try clear hfz20_1
                            try clear hfz20_2
                            try clear hfz20_3
                            try clear hfz26_0
                            try clear hfz26_1
                            try clear hfz27_0
                            try clear hfz27_1
                            try clear hfz27_2
                            try clear hfz27_3
                            try clear hfz32_0
                            try clear hfz32_1
                            try clear hfz40_0
                            try clear hfz40_1
                            try clear hfz41_0
                            try clear hfz41_1
                            try clear hfz41_2
                            try clear hfz41_3
                            try clear hfz46_0
                            try clear hfz46_1
                            try clear hfz47_0
                            try clear hfz47_1
                            try clear hfz47_2
                            try clear hfz47_3
                            try clear hfz49_0
                            try clear hfz49_1
                            try clear hfz50_0
                            try clear hfz50_1
                            try clear hfz50_2
                            try clear hfz50_3
                            try clear hfz55_0
                            try clear hfz55_1
                            try clear hfz56_0
                            try clear hfz56_1
                            try clear hfz56_2
                            try clear hfz56_3
                            try clear hfz60_0
                            try clear hfz60_1
                            try clear hfz63_0
                            try clear hfz63_1
                            try clear hfz67_0
                            try clear hfz67_1
                            try clear hfz67_2
                            try clear hfz67_3
                            try clear hfz68_0
                            try clear hfz68_1
                            try clear hfz71_0
                            try clear hfz71_1
                            try clear hfz71_2
                            try clear hfz71_3
                            try clear hx378_0
                            try clear hx378_1
                            try clear hx378_2
                            try clear hx378_3
                            try clear p2
                            try clear p378
                            try clear p6
                            try clear q378
                            obtain ⟨kq, x49_64, rfl, HA, HJ64, HO_4, BK377, BK379, HB⟩ := hcut
                            cases kq with
                            | zero => exact absurd HA.out (by simp [ancepslaw56_JournalRuns.j2])
                            | succ kj64 =>
                              have H := HA.out
                              clear HA
                              simp only [ancepslaw56_JournalRuns.j2] at H
                              have HC72 := Aside0.mk H
                              clear H
                              go_upto_if 49 with (fail)
                              go_cut [11] (fun v11 wc => ∃ (kq : Nat) (x11_71 : Int), v11 = .int .i64 x11_71 ∧ Aside0 (ancepslaw56_JournalRuns.j3 kq x4_2 x5_2 (Int.tmod (wrap64 ((rd_T51 l0 x27_2).f2)) (wrap64 ((x378001_2.size : Int) + 1))) x11_71 l0 (l0.length : Int) x27_2 x378000_2 x378001_2 = some r) ∧ Aside0 (kq ≤ kj64) ∧ Aside0 (Kd.R Kd.string 9 wc w.heap.size (fun _ => True) u4 x4_2) ∧ Aside0 (wc.heap[gb377]? = some (.cells #[.string x378000_2, .string x378001_2] 33 (0, 0))) ∧ Aside0 (wc.heap[gb379]? = some (.cells #[.int .u8 ((rd_T51 l0 x27_2).f0), .string ((rd_T51 l0 x27_2).f1), .int .u16 ((rd_T51 l0 x27_2).f2), .int .u16 ((rd_T51 l0 x27_2).f3)] 51 (0, 0))) ∧ Aside0 (Below w.heap.size w wc))
                              case first =>
                                have H := HC72.out
                                clear HC72
                                by_cases c73 : x49_64 = true
                                · subst c73
                                  have H1 : (if (wrap64 (8 * (Int.tmod (wrap64 ((rd_T51 l0 x27_2).f2)) (wrap64 ((x378001_2.size : Int) + 1))))) = 0 then (none) else (ancepslaw56_JournalRuns.j3 kj64 x4_2 x5_2 (Int.tmod (wrap64 ((rd_T51 l0 x27_2).f2)) (wrap64 ((x378001_2.size : Int) + 1))) (Int.tmod (wrap64 (((rd_T51 l0 x27_2).f3))) (wrap64 (8 * (Int.tmod (wrap64 ((rd_T51 l0 x27_2).f2)) (wrap64 ((x378001_2.size : Int) + 1)))))) l0 (l0.length : Int) x27_2 x378000_2 x378001_2)) = some r := by rw [if_pos rfl] at H; exact H
                                  clear H
                                  have H := H1
                                  clear H1
                                  by_cases c74 : (wrap64 (8 * (Int.tmod (wrap64 ((rd_T51 l0 x27_2).f2)) (wrap64 ((x378001_2.size : Int) + 1))))) = 0
                                  · rw [if_pos c74] at H
                                    exact absurd H (by simp)
                                  · rw [if_neg c74] at H
                                    have c74b0 : ((wrap64 (8 * (Int.tmod (wrap64 ((rd_T51 l0 x27_2).f2)) (wrap64 ((x378001_2.size : Int) + 1))))) == 0) = false := beq_eq_false_iff_ne.mpr c74
                                    have c74b1 : ((wrap64 (8 * (Int.tmod (wrap64 ((rd_T51 l0 x27_2).f2)) (wrap64 ((x378001_2.size : Int) + 1))))) != 0) = true := bne_iff_ne.mpr c74
                                    (first | rw [c74b0] | (simp only [i64_w, i32_w]; rw [c74b0]) | skip)
                                    have H' := Aside0.mk H
                                    clear H
                                    have hnb75 := NB379_377.out
                                    have hnc75 := NB377_379.out
                                    have hcz76_0 : wc.cell? ⟨gb379, 0, none⟩ = some (.int .u8 ((rd_T51 l0 x27_2).f0)) := (blk_cell BK379.out 0).trans rfl
                                    have hcz76_1 : wc.cell? ⟨gb379, 1, none⟩ = some (.string ((rd_T51 l0 x27_2).f1)) := (blk_cell BK379.out 1).trans rfl
                                    have hcz76_2 : wc.cell? ⟨gb379, 2, none⟩ = some (.int .u16 ((rd_T51 l0 x27_2).f2)) := (blk_cell BK379.out 2).trans rfl
                                    have hcz76_3 : wc.cell? ⟨gb379, 3, none⟩ = some (.int .u16 ((rd_T51 l0 x27_2).f3)) := (blk_cell BK379.out 3).trans rfl
                                    have hfz76_0 := blk_frozen BK379.out 0
                                    have hfz76_1 := blk_frozen BK379.out 1
                                    have hfz76_2 := blk_frozen BK379.out 2
                                    have hfz76_3 := blk_frozen BK379.out 3
                                    go_wp2
                                    go_meet
                                    case rel => exact ⟨_, (Int.tmod (wrap64 (((rd_T51 l0 x27_2).f3))) (wrap64 (8 * (Int.tmod (wrap64 ((rd_T51 l0 x27_2).f2)) (wrap64 ((x378001_2.size : Int) + 1)))))), (by first | rfl | (simp; done) | (simp [*]; done)), H', ⟨by have := HJ1.out; have := HK2.out; have := HJ64.out; first | omega | exact Nat.le_refl _⟩, ⟨by (with_reducible repeat (first | apply Kd.R_alloc | apply Kd.R_drewN | apply Kd.R_drew)); exact HO_4.out⟩, ⟨by (with_reducible repeat (first | refine blk_drewN ?_ _ | refine blk_drew ?_ | refine blk_alloc ?_ _)); exact BK377.out⟩, ⟨by (with_reducible repeat (first | refine blk_drewN ?_ _ | refine blk_drew ?_ | refine blk_alloc ?_ _)); exact BK379.out⟩, ⟨by repeat (first | (with_reducible first | exact HB.out | apply below_alloc | apply pw_below_drewN | apply below_drew1 | refine below_set ?_ GE377.out | refine below_set ?_ GE379.out) | exact HB.out)⟩⟩
                                · replace c73 := Bool.eq_false_iff.mpr c73
                                  subst c73
                                  have H1 : (ancepslaw56_JournalRuns.j3 kj64 x4_2 x5_2 (Int.tmod (wrap64 ((rd_T51 l0 x27_2).f2)) (wrap64 ((x378001_2.size : Int) + 1))) (-1) l0 (l0.length : Int) x27_2 x378000_2 x378001_2) = some r := by rw [if_neg (show ¬ (false = true) by decide)] at H; exact H
                                  clear H
                                  have H := H1
                                  clear H1
                                  have H' := Aside0.mk H
                                  clear H
                                  go_wp2
                                  go_meet
                                  case rel => exact ⟨_, ((-1)), (by first | rfl | (simp; done) | (simp [*]; done)), H', ⟨by have := HJ1.out; have := HK2.out; have := HJ64.out; first | omega | exact Nat.le_refl _⟩, ⟨by (with_reducible repeat (first | apply Kd.R_alloc | apply Kd.R_drewN | apply Kd.R_drew)); exact HO_4.out⟩, ⟨by (with_reducible repeat (first | refine blk_drewN ?_ _ | refine blk_drew ?_ | refine blk_alloc ?_ _)); exact BK377.out⟩, ⟨by (with_reducible repeat (first | refine blk_drewN ?_ _ | refine blk_drew ?_ | refine blk_alloc ?_ _)); exact BK379.out⟩, ⟨by repeat (first | (with_reducible first | exact HB.out | apply below_alloc | apply pw_below_drewN | apply below_drew1 | refine below_set ?_ GE377.out | refine below_set ?_ GE379.out) | exact HB.out)⟩⟩
                              case rest =>
                                clear HC72
                                try clear c1
                                try clear c2
                                try clear p2
                                try clear c3
                                try clear p3
                                try clear q3
                                try clear hx3
                                try clear c4
                                try clear c5
                                try clear c6
                                try clear p6
                                try clear c7
                                try clear c10
                                try clear c11
                                try clear c14
                                try clear c14b0
                                try clear c15
                                try clear c15b0
                                try clear c16
                                try clear c16b0
                                try clear c19
                                try clear c21
                                try clear c21b0
                                try clear c21b1
                                try clear c23
                                try clear c23b0
                                try clear c23b1
                                try clear c24
                                try clear c25
                                try clear c30
                                try clear c31
                                try clear p37
                                try clear q37
                                try clear hx37
                                try clear c38
                                try clear c38b0
                                try clear c38b1
                                try clear c39
                                try clear c44
                                try clear c45
                                try clear c48
                                try clear c53
                                try clear c54
                                try clear c57
                                try clear c57b0
                                try clear c57b1
                                try clear c59
                                try clear c64
                                try clear c64b0
                                try clear c64b1
                                try clear p64
                                try clear c66
                                try clear c69
                                try clear c69b0
                                try clear c70
                                try clear c73
                                try clear c74
                                try clear c74b0
                                try clear c74b1
                                try clear c75
                                try clear hcz13_0
                                try clear hcz13_1
                                try clear hcz20_0
                                try clear hcz20_1
                                try clear hcz20_2
                                try clear hcz20_3
                                try clear hcz26_0
                                try clear hcz26_1
                                try clear hcz27_0
                                try clear hcz27_1
                                try clear hcz27_2
                                try clear hcz27_3
                                try clear hcz32_0
                                try clear hcz32_1
                                try clear hcz40_0
                                try clear hcz40_1
                                try clear hcz41_0
                                try clear hcz41_1
                                try clear hcz41_2
                                try clear hcz41_3
                                try clear hcz46_0
                                try clear hcz46_1
                                try clear hcz47_0
                                try clear hcz47_1
                                try clear hcz47_2
                                try clear hcz47_3
                                try clear hcz49_0
                                try clear hcz49_1
                                try clear hcz50_0
                                try clear hcz50_1
                                try clear hcz50_2
                                try clear hcz50_3
                                try clear hcz55_0
                                try clear hcz55_1
                                try clear hcz56_0
                                try clear hcz56_1
                                try clear hcz56_2
                                try clear hcz56_3
                                try clear hcz60_0
                                try clear hcz60_1
                                try clear hcz63_0
                                try clear hcz63_1
                                try clear hcz67_0
                                try clear hcz67_1
                                try clear hcz67_2
                                try clear hcz67_3
                                try clear hcz68_0
                                try clear hcz68_1
                                try clear hcz71_0
                                try clear hcz71_1
                                try clear hcz71_2
                                try clear hcz71_3
                                try clear hcz76_0
                                try clear hcz76_1
                                try clear hcz76_2
                                try clear hcz76_3
                                try clear hfz13_0
                                try clear hfz13_1
                                try clear hfz20_0
                                try clear hfz20_1
                                try clear hfz20_2
                                try clear hfz20_3
                                try clear hfz26_0
                                try clear hfz26_1
                                try clear hfz27_0
                                try clear hfz27_1
                                try clear hfz27_2
                                try clear hfz27_3
                                try clear hfz32_0
                                try clear hfz32_1
                                try clear hfz40_0
                                try clear hfz40_1
                                try clear hfz41_0
                                try clear hfz41_1
                                try clear hfz41_2
                                try clear hfz41_3
                                try clear hfz46_0
                                try clear hfz46_1
                                try clear hfz47_0
                                try clear hfz47_1
                                try clear hfz47_2
                                try clear hfz47_3
                                try clear hfz49_0
                                try clear hfz49_1
                                try clear hfz50_0
                                try clear hfz50_1
                                try clear hfz50_2
                                try clear hfz50_3
                                try clear hfz55_0
                                try clear hfz55_1
                                try clear hfz56_0
                                try clear hfz56_1
                                try clear hfz56_2
                                try clear hfz56_3
                                try clear hfz60_0
                                try clear hfz60_1
                                try clear hfz63_0
                                try clear hfz63_1
                                try clear hfz67_0
                                try clear hfz67_1
                                try clear hfz67_2
                                try clear hfz67_3
                                try clear hfz68_0
                                try clear hfz68_1
                                try clear hfz71_0
                                try clear hfz71_1
                                try clear hfz71_2
                                try clear hfz71_3
                                try clear hfz76_0
                                try clear hfz76_1
                                try clear hfz76_2
                                try clear hfz76_3
                                try clear hx378_0
                                try clear hx378_1
                                try clear hx378_2
                                try clear hx378_3
                                try clear p2
                                try clear p3
                                try clear p37
                                try clear p378
                                try clear p6
                                try clear p64
                                try clear q3
                                try clear q37
                                try clear q378
                                obtain ⟨kq, x11_71, rfl, HA, HJ71, HO_4, BK377, BK379, HB⟩ := hcut
                                cases kq with
                                | zero => exact absurd HA.out (by simp [ancepslaw56_JournalRuns.j3])
                                | succ kj71 =>
                                  have H := HA.out
                                  clear HA
                                  simp only [ancepslaw56_JournalRuns.j3] at H
                                  replace H := Option.bind_eq_some_iff.mp H
                                  obtain ⟨⟨t389, t390, t391⟩, A770, H⟩ := H
                                  replace H : ((journal_Recover.f kj71 t389 t390).bind fun bt393 => (if t391 = 0 then ((ancepsref56_Begins.f kj71 bt393.2.2 x4_2).bind fun t399 => (if t399 = true then (if (bt393.2.2.length : Int) < x5_2 then (some false) else (ancepslaw56_JournalRuns.j4 kj71 bt393.2.2 (bt393.2.2.length : Int) l0 (l0.length : Int) x27_2 bt393.1 bt393.2.1)) else (some false))) else (some false))) = some r := H
                                  have A77 := Aside0.mk A770
                                  clear A770
                                  replace H := Option.bind_eq_some_iff.mp H
                                  obtain ⟨⟨t393, t394, t395⟩, A780, H⟩ := H
                                  replace H : (if t391 = 0 then ((ancepsref56_Begins.f kj71 t395 x4_2).bind fun t399 => (if t399 = true then (if (t395.length : Int) < x5_2 then (some false) else (ancepslaw56_JournalRuns.j4 kj71 t395 (t395.length : Int) l0 (l0.length : Int) x27_2 t393 t394)) else (some false))) else (some false)) = some r := H
                                  have A78 := Aside0.mk A780
                                  clear A780
                                  by_cases c79 : t391 = 0
                                  · rw [if_pos c79] at H
                                    have c79b0 : (t391 == 0) = true := beq_iff_eq.mpr c79
                                    have c79b1 : (t391 != 0) = false := bne_eq_false_iff_eq.mpr c79
                                    clear c79
                                    replace H := Option.bind_eq_some_iff.mp H
                                    obtain ⟨t399, A800, H⟩ := H
                                    replace H : (if t399 = true then (if (t395.length : Int) < x5_2 then (some false) else (ancepslaw56_JournalRuns.j4 kj71 t395 (t395.length : Int) l0 (l0.length : Int) x27_2 t393 t394)) else (some false)) = some r := H
                                    have A80 := Aside0.mk A800
                                    clear A800
                                    by_cases c81 : t399 = true
                                    · subst c81
                                      have H1 : (if (t395.length : Int) < x5_2 then (some false) else (ancepslaw56_JournalRuns.j4 kj71 t395 (t395.length : Int) l0 (l0.length : Int) x27_2 t393 t394)) = some r := by rw [if_pos rfl] at H; exact H
                                      clear H
                                      have H := H1
                                      clear H1
                                      by_cases c82 : (t395.length : Int) < x5_2
                                      · rw [if_pos c82] at H
                                        have c82b0 : decide ((t395.length : Int) < x5_2) = true := decide_eq_true c82
                                        clear c82
                                        obtain rfl := Option.some.inj H
                                        have hnb83 := NB377_379.out
                                        have hnc83 := NB379_377.out
                                        have hcz84_0 : wc.cell? ⟨gb377, 0, none⟩ = some (.string x378000_2) := (blk_cell BK377.out 0).trans rfl
                                        have hcz84_1 : wc.cell? ⟨gb377, 1, none⟩ = some (.string x378001_2) := (blk_cell BK377.out 1).trans rfl
                                        have hfz84_0 := blk_frozen BK377.out 0
                                        have hfz84_1 := blk_frozen BK377.out 1
                                        go_wp2_with (first | ((with_reducible refine gate_callee (f := 27) rfl ?_); refine goesL_ (some 60) rfl rfl Try.func27 (by kernel_rfl) rfl #[.agg #[.string x378000_2, .string x378001_2], .int .i64 (Int.tmod (wrap64 ((rd_T51 l0 x27_2).f2)) (wrap64 ((x378001_2.size : Int) + 1))), .int .i64 x11_71] rfl (by (try simp only [List.map_toArray, List.map_cons, List.map_nil]); first | done | rfl | (simp only [List.length_drop, List.length_take]; rfl) | (simp only [decide_eq_true_eq, decide_eq_false_iff_not] at *; congr <;> (first | rfl | (refine (congrArg (Value.int .i64) ?_ : Value.int .i64 _ = Value.int .i64 _); unfold wrap64; omega) | fail)) | fail) ?_; (with_reducible refine (journal_Crash.calls x378000_2 x378001_2 (Int.tmod (wrap64 ((rd_T51 l0 x27_2).f2)) (wrap64 ((x378001_2.size : Int) + 1))) x11_71 t389 t390 t391 _ A77.out).mono ?_); rintro e w85 ⟨rfl, hb⟩; refine ⟨_, rfl, ?_⟩; have n0_ := Aside0.mk (Kd.R_below (by (with_reducible repeat (first | apply Kd.R_alloc | apply Kd.R_drewN | apply Kd.R_drew)); exact HO_4.out) hb); have n1_ := Aside0.mk (blk_below (g := gb377) (o := .cells #[.string x378000_2, .string x378001_2] 33 (0, 0)) (by (with_reducible repeat (first | refine blk_drewN ?_ _ | refine blk_drew ?_ | refine blk_alloc ?_ _)); exact BK377.out) hb); have n2_ := Aside0.mk (blk_below (g := gb379) (o := .cells #[.int .u8 ((rd_T51 l0 x27_2).f0), .string ((rd_T51 l0 x27_2).f1), .int .u16 ((rd_T51 l0 x27_2).f2), .int .u16 ((rd_T51 l0 x27_2).f3)] 51 (0, 0)) (by (with_reducible repeat (first | refine blk_drewN ?_ _ | refine blk_drew ?_ | refine blk_alloc ?_ _)); exact BK379.out) hb); have n3_ := Aside0.mk (below_step (by repeat (first | (with_reducible first | exact HB.out | apply below_alloc | apply pw_below_drewN | apply below_drew1 | refine below_set ?_ GE377.out | refine below_set ?_ GE379.out) | exact HB.out)) hb); clear HO_4; clear BK377; clear BK379; clear HB; have HO_4 := n0_; have BK377 := n1_; have BK379 := n2_; have HB := n3_; clear n0_ n1_ n2_ n3_; (try clear hb); (try clear hb2); (try clear hk); (try clear hi)) | ((with_reducible refine gate_dst (N := 12) rfl ?_); (try (refine gate_guard (by rfl) ?_; dsimp only)); refine box_event ?hg (N := 12) ?hd (cs := #[.string (⟨#[]⟩ : ByteArray), .string (⟨#[]⟩ : ByteArray)]) (t := 33) ?hr ?_; (case hd => rfl); (case hg => rfl); (case hr => first | (go_simp; done) | (go_simp; rfl)); intro gb392 hg w86 hbox hb; have n0_ := Aside0.mk (Kd.R_below (by (with_reducible repeat (first | apply Kd.R_alloc | apply Kd.R_drewN | apply Kd.R_drew)); exact HO_4.out) hb); have n1_ := Aside0.mk (blk_below (g := gb377) (o := .cells #[.string x378000_2, .string x378001_2] 33 (0, 0)) (by (with_reducible repeat (first | refine blk_drewN ?_ _ | refine blk_drew ?_ | refine blk_alloc ?_ _)); exact BK377.out) hb); have n2_ := Aside0.mk (blk_below (g := gb379) (o := .cells #[.int .u8 ((rd_T51 l0 x27_2).f0), .string ((rd_T51 l0 x27_2).f1), .int .u16 ((rd_T51 l0 x27_2).f2), .int .u16 ((rd_T51 l0 x27_2).f3)] 51 (0, 0)) (by (with_reducible repeat (first | refine blk_drewN ?_ _ | refine blk_drew ?_ | refine blk_alloc ?_ _)); exact BK379.out) hb); have n3_ := Aside0.mk (below_step (by repeat (first | (with_reducible first | exact HB.out | apply below_alloc | apply pw_below_drewN | apply below_drew1 | refine below_set ?_ GE377.out | refine below_set ?_ GE379.out) | exact HB.out)) hb); have n4_ := Aside0.mk (hbox); have n5_ := Aside0.mk ((by rw [hg]; exact (below_size (by repeat (first | (with_reducible first | exact HB.out | apply below_alloc | apply pw_below_drewN | apply below_drew1 | refine below_set ?_ GE377.out | refine below_set ?_ GE379.out) | exact HB.out))) : w.heap.size ≤ gb392)); have n6_ := Aside0.mk ((by rw [hg]; exact (below_size (by repeat (first | (with_reducible first | exact HB.out | apply below_alloc | apply pw_below_drewN | apply below_drew1 | refine below_set ?_ GE377.out | refine below_set ?_ GE379.out) | exact HB.out))) : w.heap.size ≤ gb392)); have n7_ := Aside0.mk ((by rw [hg]; exact Nat.ne_of_lt (blk_lt (g := gb377) (o := .cells #[.string x378000_2, .string x378001_2] 33 (0, 0)) (by (with_reducible repeat (first | refine blk_drewN ?_ _ | refine blk_drew ?_ | refine blk_alloc ?_ _)); exact BK377.out)) : gb377 ≠ gb392)); have n8_ := Aside0.mk ((by rw [hg]; exact Nat.ne_of_gt (blk_lt (g := gb377) (o := .cells #[.string x378000_2, .string x378001_2] 33 (0, 0)) (by (with_reducible repeat (first | refine blk_drewN ?_ _ | refine blk_drew ?_ | refine blk_alloc ?_ _)); exact BK377.out)) : gb392 ≠ gb377)); have n9_ := Aside0.mk ((by rw [hg]; exact Nat.ne_of_lt (blk_lt (g := gb379) (o := .cells #[.int .u8 ((rd_T51 l0 x27_2).f0), .string ((rd_T51 l0 x27_2).f1), .int .u16 ((rd_T51 l0 x27_2).f2), .int .u16 ((rd_T51 l0 x27_2).f3)] 51 (0, 0)) (by (with_reducible repeat (first | refine blk_drewN ?_ _ | refine blk_drew ?_ | refine blk_alloc ?_ _)); exact BK379.out)) : gb379 ≠ gb392)); have n10_ := Aside0.mk ((by rw [hg]; exact Nat.ne_of_gt (blk_lt (g := gb379) (o := .cells #[.int .u8 ((rd_T51 l0 x27_2).f0), .string ((rd_T51 l0 x27_2).f1), .int .u16 ((rd_T51 l0 x27_2).f2), .int .u16 ((rd_T51 l0 x27_2).f3)] 51 (0, 0)) (by (with_reducible repeat (first | refine blk_drewN ?_ _ | refine blk_drew ?_ | refine blk_alloc ?_ _)); exact BK379.out)) : gb392 ≠ gb379)); clear HO_4; clear BK377; clear BK379; clear HB; have HO_4 := n0_; have BK377 := n1_; have BK379 := n2_; have HB := n3_; have BK392 := n4_; have GW392 := n5_; have GE392 := n6_; have NB377_392 := n7_; have NB392_377 := n8_; have NB379_392 := n9_; have NB392_379 := n10_; clear n0_ n1_ n2_ n3_ n4_ n5_ n6_ n7_ n8_ n9_ n10_; clear hb hbox hg; have hnb87 := NB392_377.out; have hnc87 := NB377_392.out; have hnb88 := NB392_379.out; have hnc88 := NB379_392.out; have hcz89_0 : w86.cell? ⟨gb392, 0, none⟩ = some (.string (⟨#[]⟩ : ByteArray)) := (blk_cell BK392.out 0).trans rfl; have hcz89_1 : w86.cell? ⟨gb392, 1, none⟩ = some (.string (⟨#[]⟩ : ByteArray)) := (blk_cell BK392.out 1).trans rfl; have hfz89_0 := blk_frozen BK392.out 0; have hfz89_1 := blk_frozen BK392.out 1) | ((with_reducible refine gate_callee (f := 31) rfl ?_); refine goesL_ (some 65) rfl rfl Try.func31 (by kernel_rfl) rfl #[.agg #[.string t389, .string t390]] rfl (by (try simp only [List.map_toArray, List.map_cons, List.map_nil]); first | done | rfl | (simp only [List.length_drop, List.length_take]; rfl) | (simp only [decide_eq_true_eq, decide_eq_false_iff_not] at *; congr <;> (first | rfl | (refine (congrArg (Value.int .i64) ?_ : Value.int .i64 _ = Value.int .i64 _); unfold wrap64; omega) | fail)) | fail) ?_; (with_reducible refine (journal_Recover.calls kj71 t389 t390 t393 t394 t395 _ A78.out).mono ?_); rintro e w90 ⟨v396, rfl, ho0, hb⟩; refine ⟨_, rfl, ?_⟩; have n0_ := Aside0.mk (Kd.R_elder' (by (with_reducible repeat (first | apply Kd.R_alloc | apply Kd.R_drewN | apply Kd.R_drew)); exact (Kd.R_mono (Kd.R_far (p := ⟨gb392, 1, none⟩) (Kd.R_far (p := ⟨gb392, 0, none⟩) (Kd.R_types HO_4.out BK392.out (by decide)) (fun _ hk => hk.2) (.string t389)) (fun _ hk => hk.2) (.string t390)) (fun _ h_ => h_.1))) (Kd.R_base ho0) hb); have n1_ := Aside0.mk (Kd.R_lower (Kd.R_new' ho0 (Kd.R_lt (by (with_reducible repeat (first | apply Kd.R_alloc | apply Kd.R_drewN | apply Kd.R_drew)); exact (Kd.R_mono (Kd.R_far (p := ⟨gb392, 1, none⟩) (Kd.R_far (p := ⟨gb392, 0, none⟩) (Kd.R_types HO_4.out BK392.out (by decide)) (fun _ hk => hk.2) (.string t389)) (fun _ hk => hk.2) (.string t390)) (fun _ h_ => h_.1))))) (below_size (by repeat (first | (with_reducible first | exact HB.out | apply below_alloc | apply pw_below_drewN | apply below_drew1 | refine below_set ?_ GE377.out | refine below_set ?_ GE379.out | refine below_set ?_ GE392.out) | exact HB.out)))); have n2_ := Aside0.mk (blk_below (g := gb377) (o := .cells #[.string x378000_2, .string x378001_2] 33 (0, 0)) (by (with_reducible repeat (first | refine blk_drewN ?_ _ | refine blk_drew ?_ | refine blk_alloc ?_ _)); refine blk_far ?_ NB377_392.out _; (with_reducible repeat (first | refine blk_drewN ?_ _ | refine blk_drew ?_ | refine blk_alloc ?_ _)); refine blk_far ?_ NB377_392.out _; (with_reducible repeat (first | refine blk_drewN ?_ _ | refine blk_drew ?_ | refine blk_alloc ?_ _)); exact BK377.out) hb); have n3_ := Aside0.mk (blk_below (g := gb379) (o := .cells #[.int .u8 ((rd_T51 l0 x27_2).f0), .string ((rd_T51 l0 x27_2).f1), .int .u16 ((rd_T51 l0 x27_2).f2), .int .u16 ((rd_T51 l0 x27_2).f3)] 51 (0, 0)) (by (with_reducible repeat (first | refine blk_drewN ?_ _ | refine blk_drew ?_ | refine blk_alloc ?_ _)); refine blk_far ?_ NB379_392.out _; (with_reducible repeat (first | refine blk_drewN ?_ _ | refine blk_drew ?_ | refine blk_alloc ?_ _)); refine blk_far ?_ NB379_392.out _; (with_reducible repeat (first | refine blk_drewN ?_ _ | refine blk_drew ?_ | refine blk_alloc ?_ _)); exact BK379.out) hb); have n4_ := Aside0.mk (blk_below (g := gb392) (o := .cells #[.string t389, .string t390] 33 (0, 0)) (by (with_reducible repeat (first | refine blk_drewN ?_ _ | refine blk_drew ?_ | refine blk_alloc ?_ _)); refine blk_put (cs := #[.string t389, .string (⟨#[]⟩ : ByteArray)]) ?_ 1 _ rfl; (with_reducible repeat (first | refine blk_drewN ?_ _ | refine blk_drew ?_ | refine blk_alloc ?_ _)); refine blk_put (cs := #[.string (⟨#[]⟩ : ByteArray), .string (⟨#[]⟩ : ByteArray)]) ?_ 0 _ rfl; (with_reducible repeat (first | refine blk_drewN ?_ _ | refine blk_drew ?_ | refine blk_alloc ?_ _)); exact BK392.out) hb); have n5_ := Aside0.mk (below_step (by repeat (first | (with_reducible first | exact HB.out | apply below_alloc | apply pw_below_drewN | apply below_drew1 | refine below_set ?_ GE377.out | refine below_set ?_ GE379.out | refine below_set ?_ GE392.out) | exact HB.out)) hb); clear HO_4; clear BK377; clear BK379; clear BK392; clear HB; have HO_4 := n0_; have HO397 := n1_; have BK377 := n2_; have BK379 := n3_; have BK392 := n4_; have HB := n5_; clear n0_ n1_ n2_ n3_ n4_ n5_; (try clear hb); (try clear hb2); (try clear hk); (try clear hi); (try clear ho0)) | ((with_reducible refine gate_dst (N := 14) rfl ?_); (try (refine gate_guard (by rfl) ?_; dsimp only)); refine box_event ?hg (N := 14) ?hd (cs := #[.string (⟨#[]⟩ : ByteArray), .string (⟨#[]⟩ : ByteArray)]) (t := 33) ?hr ?_; (case hd => rfl); (case hg => rfl); (case hr => first | (go_simp; done) | (go_simp; rfl)); intro gb398 hg w91 hbox hb; have n0_ := Aside0.mk (Kd.R_below (by (with_reducible repeat (first | apply Kd.R_alloc | apply Kd.R_drewN | apply Kd.R_drew)); exact HO_4.out) hb); have n1_ := Aside0.mk (Kd.R_below (by (with_reducible repeat (first | apply Kd.R_alloc | apply Kd.R_drewN | apply Kd.R_drew)); exact HO397.out) hb); have n2_ := Aside0.mk (blk_below (g := gb377) (o := .cells #[.string x378000_2, .string x378001_2] 33 (0, 0)) (by (with_reducible repeat (first | refine blk_drewN ?_ _ | refine blk_drew ?_ | refine blk_alloc ?_ _)); exact BK377.out) hb); have n3_ := Aside0.mk (blk_below (g := gb379) (o := .cells #[.int .u8 ((rd_T51 l0 x27_2).f0), .string ((rd_T51 l0 x27_2).f1), .int .u16 ((rd_T51 l0 x27_2).f2), .int .u16 ((rd_T51 l0 x27_2).f3)] 51 (0, 0)) (by (with_reducible repeat (first | refine blk_drewN ?_ _ | refine blk_drew ?_ | refine blk_alloc ?_ _)); exact BK379.out) hb); have n4_ := Aside0.mk (blk_below (g := gb392) (o := .cells #[.string t389, .string t390] 33 (0, 0)) (by (with_reducible repeat (first | refine blk_drewN ?_ _ | refine blk_drew ?_ | refine blk_alloc ?_ _)); exact BK392.out) hb); have n5_ := Aside0.mk (below_step (by repeat (first | (with_reducible first | exact HB.out | apply below_alloc | apply pw_below_drewN | apply below_drew1 | refine below_set ?_ GE377.out | refine below_set ?_ GE379.out | refine below_set ?_ GE392.out) | exact HB.out)) hb); have n6_ := Aside0.mk (hbox); have n7_ := Aside0.mk ((by rw [hg]; exact (below_size (by repeat (first | (with_reducible first | exact HB.out | apply below_alloc | apply pw_below_drewN | apply below_drew1 | refine below_set ?_ GE377.out | refine below_set ?_ GE379.out | refine below_set ?_ GE392.out) | exact HB.out))) : w.heap.size ≤ gb398)); have n8_ := Aside0.mk ((by rw [hg]; exact (below_size (by repeat (first | (with_reducible first | exact HB.out | apply below_alloc | apply pw_below_drewN | apply below_drew1 | refine below_set ?_ GE377.out | refine below_set ?_ GE379.out | refine below_set ?_ GE392.out) | exact HB.out))) : w.heap.size ≤ gb398)); have n9_ := Aside0.mk ((by rw [hg]; exact Nat.ne_of_lt (blk_lt (g := gb377) (o := .cells #[.string x378000_2, .string x378001_2] 33 (0, 0)) (by (with_reducible repeat (first | refine blk_drewN ?_ _ | refine blk_drew ?_ | refine blk_alloc ?_ _)); exact BK377.out)) : gb377 ≠ gb398)); have n10_ := Aside0.mk ((by rw [hg]; exact Nat.ne_of_gt (blk_lt (g := gb377) (o := .cells #[.string x378000_2, .string x378001_2] 33 (0, 0)) (by (with_reducible repeat (first | refine blk_drewN ?_ _ | refine blk_drew ?_ | refine blk_alloc ?_ _)); exact BK377.out)) : gb398 ≠ gb377)); have n11_ := Aside0.mk ((by rw [hg]; exact Nat.ne_of_lt (blk_lt (g := gb379) (o := .cells #[.int .u8 ((rd_T51 l0 x27_2).f0), .string ((rd_T51 l0 x27_2).f1), .int .u16 ((rd_T51 l0 x27_2).f2), .int .u16 ((rd_T51 l0 x27_2).f3)] 51 (0, 0)) (by (with_reducible repeat (first | refine blk_drewN ?_ _ | refine blk_drew ?_ | refine blk_alloc ?_ _)); exact BK379.out)) : gb379 ≠ gb398)); have n12_ := Aside0.mk ((by rw [hg]; exact Nat.ne_of_gt (blk_lt (g := gb379) (o := .cells #[.int .u8 ((rd_T51 l0 x27_2).f0), .string ((rd_T51 l0 x27_2).f1), .int .u16 ((rd_T51 l0 x27_2).f2), .int .u16 ((rd_T51 l0 x27_2).f3)] 51 (0, 0)) (by (with_reducible repeat (first | refine blk_drewN ?_ _ | refine blk_drew ?_ | refine blk_alloc ?_ _)); exact BK379.out)) : gb398 ≠ gb379)); have n13_ := Aside0.mk ((by rw [hg]; exact Nat.ne_of_lt (blk_lt (g := gb392) (o := .cells #[.string t389, .string t390] 33 (0, 0)) (by (with_reducible repeat (first | refine blk_drewN ?_ _ | refine blk_drew ?_ | refine blk_alloc ?_ _)); exact BK392.out)) : gb392 ≠ gb398)); have n14_ := Aside0.mk ((by rw [hg]; exact Nat.ne_of_gt (blk_lt (g := gb392) (o := .cells #[.string t389, .string t390] 33 (0, 0)) (by (with_reducible repeat (first | refine blk_drewN ?_ _ | refine blk_drew ?_ | refine blk_alloc ?_ _)); exact BK392.out)) : gb398 ≠ gb392)); clear HO_4; clear HO397; clear BK377; clear BK379; clear BK392; clear HB; have HO_4 := n0_; have HO397 := n1_; have BK377 := n2_; have BK379 := n3_; have BK392 := n4_; have HB := n5_; have BK398 := n6_; have GW398 := n7_; have GE398 := n8_; have NB377_398 := n9_; have NB398_377 := n10_; have NB379_398 := n11_; have NB398_379 := n12_; have NB392_398 := n13_; have NB398_392 := n14_; clear n0_ n1_ n2_ n3_ n4_ n5_ n6_ n7_ n8_ n9_ n10_ n11_ n12_ n13_ n14_; clear hb hbox hg; have hnb92 := NB398_377.out; have hnc92 := NB377_398.out; have hnb93 := NB398_379.out; have hnc93 := NB379_398.out; have hnb94 := NB398_392.out; have hnc94 := NB392_398.out; have hcz95_0 : w91.cell? ⟨gb398, 0, none⟩ = some (.string (⟨#[]⟩ : ByteArray)) := (blk_cell BK398.out 0).trans rfl; have hcz95_1 : w91.cell? ⟨gb398, 1, none⟩ = some (.string (⟨#[]⟩ : ByteArray)) := (blk_cell BK398.out 1).trans rfl; have hfz95_0 := blk_frozen BK398.out 0; have hfz95_1 := blk_frozen BK398.out 1; obtain ⟨Ao96, co96, eo96⟩ := Kd.R_slice HO397.out; subst eo96; obtain ⟨Ao97, co97, eo97⟩ := Kd.R_slice HO_4.out; subst eo97) | (go_at_call 33; (with_reducible refine (ancepsref56_Begins.calls kj71 _ _ t395 _ _ x4_2 true _ ?side1 ?side2 ?side3 ?side4 A80.out).mono ?_); (case side1 => refine (Kd.R_reads' (e := 9) (base := w.heap.size) (ok := fun k_ => (True ∧ some k_ ≠ (.slice Ao97 x4_2.length co97 : Value).ownBlock)) (n := t395.length) (c := co96) ?_).2.2; exact (by (with_reducible repeat (first | apply Kd.R_alloc | apply Kd.R_drewN | apply Kd.R_drew)); exact (Kd.R_mono (Kd.R_far (p := ⟨gb398, 1, none⟩) (Kd.R_far (p := ⟨gb398, 0, none⟩) (Kd.R_types HO397.out BK398.out (by decide)) (fun _ hk => hk.2) (.string t393)) (fun _ hk => hk.2) (.string t394)) (fun _ h_ => h_.1)))); (case side2 => exact (Kd.R_reads' HO397.out).2.1); (case side3 => refine (Kd.R_reads' (e := 9) (base := w.heap.size) (ok := fun k_ => (True ∧ some k_ ≠ (.slice Ao96 t395.length co96 : Value).ownBlock)) (n := x4_2.length) (c := co97) ?_).2.2; exact (by (with_reducible repeat (first | apply Kd.R_alloc | apply Kd.R_drewN | apply Kd.R_drew)); exact (Kd.R_mono (Kd.R_far (p := ⟨gb398, 1, none⟩) (Kd.R_far (p := ⟨gb398, 0, none⟩) (Kd.R_types HO_4.out BK398.out (by decide)) (fun _ hk => hk.2) (.string t393)) (fun _ hk => hk.2) (.string t394)) (fun _ h_ => h_.1)))); (case side4 => exact (Kd.R_reads' HO_4.out).2.1); rintro e w' ⟨rfl, ⟨nd, rfl⟩⟩))
                                        go_ret
                                        exact ⟨by first | rfl | (simp [errW_none, errW_some] <;> rfl) | (simp [*, errW_none, errW_some] <;> rfl), by repeat (first | (with_reducible first | exact HB.out | apply below_alloc | apply pw_below_drewN | apply below_drew1 | refine below_set ?_ GE377.out | refine below_set ?_ GE379.out | refine below_set ?_ GE392.out | refine below_set ?_ GE398.out) | exact HB.out)⟩
                                      · rw [if_neg c82] at H
                                        have c82b0 : decide ((t395.length : Int) < x5_2) = false := decide_eq_false c82
                                        clear c82
                                        have H' := Aside0.mk H
                                        clear H
                                        have hnb98 := NB377_379.out
                                        have hnc98 := NB379_377.out
                                        have hcz99_0 : wc.cell? ⟨gb377, 0, none⟩ = some (.string x378000_2) := (blk_cell BK377.out 0).trans rfl
                                        have hcz99_1 : wc.cell? ⟨gb377, 1, none⟩ = some (.string x378001_2) := (blk_cell BK377.out 1).trans rfl
                                        have hfz99_0 := blk_frozen BK377.out 0
                                        have hfz99_1 := blk_frozen BK377.out 1
                                        go_wp2_with (first | ((with_reducible refine gate_callee (f := 27) rfl ?_); refine goesL_ (some 60) rfl rfl Try.func27 (by kernel_rfl) rfl #[.agg #[.string x378000_2, .string x378001_2], .int .i64 (Int.tmod (wrap64 ((rd_T51 l0 x27_2).f2)) (wrap64 ((x378001_2.size : Int) + 1))), .int .i64 x11_71] rfl (by (try simp only [List.map_toArray, List.map_cons, List.map_nil]); first | done | rfl | (simp only [List.length_drop, List.length_take]; rfl) | (simp only [decide_eq_true_eq, decide_eq_false_iff_not] at *; congr <;> (first | rfl | (refine (congrArg (Value.int .i64) ?_ : Value.int .i64 _ = Value.int .i64 _); unfold wrap64; omega) | fail)) | fail) ?_; (with_reducible refine (journal_Crash.calls x378000_2 x378001_2 (Int.tmod (wrap64 ((rd_T51 l0 x27_2).f2)) (wrap64 ((x378001_2.size : Int) + 1))) x11_71 t389 t390 t391 _ A77.out).mono ?_); rintro e w100 ⟨rfl, hb⟩; refine ⟨_, rfl, ?_⟩; have n0_ := Aside0.mk (Kd.R_below (by (with_reducible repeat (first | apply Kd.R_alloc | apply Kd.R_drewN | apply Kd.R_drew)); exact HO_4.out) hb); have n1_ := Aside0.mk (blk_below (g := gb377) (o := .cells #[.string x378000_2, .string x378001_2] 33 (0, 0)) (by (with_reducible repeat (first | refine blk_drewN ?_ _ | refine blk_drew ?_ | refine blk_alloc ?_ _)); exact BK377.out) hb); have n2_ := Aside0.mk (blk_below (g := gb379) (o := .cells #[.int .u8 ((rd_T51 l0 x27_2).f0), .string ((rd_T51 l0 x27_2).f1), .int .u16 ((rd_T51 l0 x27_2).f2), .int .u16 ((rd_T51 l0 x27_2).f3)] 51 (0, 0)) (by (with_reducible repeat (first | refine blk_drewN ?_ _ | refine blk_drew ?_ | refine blk_alloc ?_ _)); exact BK379.out) hb); have n3_ := Aside0.mk (below_step (by repeat (first | (with_reducible first | exact HB.out | apply below_alloc | apply pw_below_drewN | apply below_drew1 | refine below_set ?_ GE377.out | refine below_set ?_ GE379.out) | exact HB.out)) hb); clear HO_4; clear BK377; clear BK379; clear HB; have HO_4 := n0_; have BK377 := n1_; have BK379 := n2_; have HB := n3_; clear n0_ n1_ n2_ n3_; (try clear hb); (try clear hb2); (try clear hk); (try clear hi)) | ((with_reducible refine gate_dst (N := 12) rfl ?_); (try (refine gate_guard (by rfl) ?_; dsimp only)); refine box_event ?hg (N := 12) ?hd (cs := #[.string (⟨#[]⟩ : ByteArray), .string (⟨#[]⟩ : ByteArray)]) (t := 33) ?hr ?_; (case hd => rfl); (case hg => rfl); (case hr => first | (go_simp; done) | (go_simp; rfl)); intro gb392 hg w101 hbox hb; have n0_ := Aside0.mk (Kd.R_below (by (with_reducible repeat (first | apply Kd.R_alloc | apply Kd.R_drewN | apply Kd.R_drew)); exact HO_4.out) hb); have n1_ := Aside0.mk (blk_below (g := gb377) (o := .cells #[.string x378000_2, .string x378001_2] 33 (0, 0)) (by (with_reducible repeat (first | refine blk_drewN ?_ _ | refine blk_drew ?_ | refine blk_alloc ?_ _)); exact BK377.out) hb); have n2_ := Aside0.mk (blk_below (g := gb379) (o := .cells #[.int .u8 ((rd_T51 l0 x27_2).f0), .string ((rd_T51 l0 x27_2).f1), .int .u16 ((rd_T51 l0 x27_2).f2), .int .u16 ((rd_T51 l0 x27_2).f3)] 51 (0, 0)) (by (with_reducible repeat (first | refine blk_drewN ?_ _ | refine blk_drew ?_ | refine blk_alloc ?_ _)); exact BK379.out) hb); have n3_ := Aside0.mk (below_step (by repeat (first | (with_reducible first | exact HB.out | apply below_alloc | apply pw_below_drewN | apply below_drew1 | refine below_set ?_ GE377.out | refine below_set ?_ GE379.out) | exact HB.out)) hb); have n4_ := Aside0.mk (hbox); have n5_ := Aside0.mk ((by rw [hg]; exact (below_size (by repeat (first | (with_reducible first | exact HB.out | apply below_alloc | apply pw_below_drewN | apply below_drew1 | refine below_set ?_ GE377.out | refine below_set ?_ GE379.out) | exact HB.out))) : w.heap.size ≤ gb392)); have n6_ := Aside0.mk ((by rw [hg]; exact (below_size (by repeat (first | (with_reducible first | exact HB.out | apply below_alloc | apply pw_below_drewN | apply below_drew1 | refine below_set ?_ GE377.out | refine below_set ?_ GE379.out) | exact HB.out))) : w.heap.size ≤ gb392)); have n7_ := Aside0.mk ((by rw [hg]; exact Nat.ne_of_lt (blk_lt (g := gb377) (o := .cells #[.string x378000_2, .string x378001_2] 33 (0, 0)) (by (with_reducible repeat (first | refine blk_drewN ?_ _ | refine blk_drew ?_ | refine blk_alloc ?_ _)); exact BK377.out)) : gb377 ≠ gb392)); have n8_ := Aside0.mk ((by rw [hg]; exact Nat.ne_of_gt (blk_lt (g := gb377) (o := .cells #[.string x378000_2, .string x378001_2] 33 (0, 0)) (by (with_reducible repeat (first | refine blk_drewN ?_ _ | refine blk_drew ?_ | refine blk_alloc ?_ _)); exact BK377.out)) : gb392 ≠ gb377)); have n9_ := Aside0.mk ((by rw [hg]; exact Nat.ne_of_lt (blk_lt (g := gb379) (o := .cells #[.int .u8 ((rd_T51 l0 x27_2).f0), .string ((rd_T51 l0 x27_2).f1), .int .u16 ((rd_T51 l0 x27_2).f2), .int .u16 ((rd_T51 l0 x27_2).f3)] 51 (0, 0)) (by (with_reducible repeat (first | refine blk_drewN ?_ _ | refine blk_drew ?_ | refine blk_alloc ?_ _)); exact BK379.out)) : gb379 ≠ gb392)); have n10_ := Aside0.mk ((by rw [hg]; exact Nat.ne_of_gt (blk_lt (g := gb379) (o := .cells #[.int .u8 ((rd_T51 l0 x27_2).f0), .string ((rd_T51 l0 x27_2).f1), .int .u16 ((rd_T51 l0 x27_2).f2), .int .u16 ((rd_T51 l0 x27_2).f3)] 51 (0, 0)) (by (with_reducible repeat (first | refine blk_drewN ?_ _ | refine blk_drew ?_ | refine blk_alloc ?_ _)); exact BK379.out)) : gb392 ≠ gb379)); clear HO_4; clear BK377; clear BK379; clear HB; have HO_4 := n0_; have BK377 := n1_; have BK379 := n2_; have HB := n3_; have BK392 := n4_; have GW392 := n5_; have GE392 := n6_; have NB377_392 := n7_; have NB392_377 := n8_; have NB379_392 := n9_; have NB392_379 := n10_; clear n0_ n1_ n2_ n3_ n4_ n5_ n6_ n7_ n8_ n9_ n10_; clear hb hbox hg; have hnb102 := NB392_377.out; have hnc102 := NB377_392.out; have hnb103 := NB392_379.out; have hnc103 := NB379_392.out; have hcz104_0 : w101.cell? ⟨gb392, 0, none⟩ = some (.string (⟨#[]⟩ : ByteArray)) := (blk_cell BK392.out 0).trans rfl; have hcz104_1 : w101.cell? ⟨gb392, 1, none⟩ = some (.string (⟨#[]⟩ : ByteArray)) := (blk_cell BK392.out 1).trans rfl; have hfz104_0 := blk_frozen BK392.out 0; have hfz104_1 := blk_frozen BK392.out 1) | ((with_reducible refine gate_callee (f := 31) rfl ?_); refine goesL_ (some 65) rfl rfl Try.func31 (by kernel_rfl) rfl #[.agg #[.string t389, .string t390]] rfl (by (try simp only [List.map_toArray, List.map_cons, List.map_nil]); first | done | rfl | (simp only [List.length_drop, List.length_take]; rfl) | (simp only [decide_eq_true_eq, decide_eq_false_iff_not] at *; congr <;> (first | rfl | (refine (congrArg (Value.int .i64) ?_ : Value.int .i64 _ = Value.int .i64 _); unfold wrap64; omega) | fail)) | fail) ?_; (with_reducible refine (journal_Recover.calls kj71 t389 t390 t393 t394 t395 _ A78.out).mono ?_); rintro e w105 ⟨v396, rfl, ho0, hb⟩; refine ⟨_, rfl, ?_⟩; have n0_ := Aside0.mk (Kd.R_elder' (by (with_reducible repeat (first | apply Kd.R_alloc | apply Kd.R_drewN | apply Kd.R_drew)); exact (Kd.R_mono (Kd.R_far (p := ⟨gb392, 1, none⟩) (Kd.R_far (p := ⟨gb392, 0, none⟩) (Kd.R_types HO_4.out BK392.out (by decide)) (fun _ hk => hk.2) (.string t389)) (fun _ hk => hk.2) (.string t390)) (fun _ h_ => h_.1))) (Kd.R_base ho0) hb); have n1_ := Aside0.mk (Kd.R_lower (Kd.R_new' ho0 (Kd.R_lt (by (with_reducible repeat (first | apply Kd.R_alloc | apply Kd.R_drewN | apply Kd.R_drew)); exact (Kd.R_mono (Kd.R_far (p := ⟨gb392, 1, none⟩) (Kd.R_far (p := ⟨gb392, 0, none⟩) (Kd.R_types HO_4.out BK392.out (by decide)) (fun _ hk => hk.2) (.string t389)) (fun _ hk => hk.2) (.string t390)) (fun _ h_ => h_.1))))) (below_size (by repeat (first | (with_reducible first | exact HB.out | apply below_alloc | apply pw_below_drewN | apply below_drew1 | refine below_set ?_ GE377.out | refine below_set ?_ GE379.out | refine below_set ?_ GE392.out) | exact HB.out)))); have n2_ := Aside0.mk (blk_below (g := gb377) (o := .cells #[.string x378000_2, .string x378001_2] 33 (0, 0)) (by (with_reducible repeat (first | refine blk_drewN ?_ _ | refine blk_drew ?_ | refine blk_alloc ?_ _)); refine blk_far ?_ NB377_392.out _; (with_reducible repeat (first | refine blk_drewN ?_ _ | refine blk_drew ?_ | refine blk_alloc ?_ _)); refine blk_far ?_ NB377_392.out _; (with_reducible repeat (first | refine blk_drewN ?_ _ | refine blk_drew ?_ | refine blk_alloc ?_ _)); exact BK377.out) hb); have n3_ := Aside0.mk (blk_below (g := gb379) (o := .cells #[.int .u8 ((rd_T51 l0 x27_2).f0), .string ((rd_T51 l0 x27_2).f1), .int .u16 ((rd_T51 l0 x27_2).f2), .int .u16 ((rd_T51 l0 x27_2).f3)] 51 (0, 0)) (by (with_reducible repeat (first | refine blk_drewN ?_ _ | refine blk_drew ?_ | refine blk_alloc ?_ _)); refine blk_far ?_ NB379_392.out _; (with_reducible repeat (first | refine blk_drewN ?_ _ | refine blk_drew ?_ | refine blk_alloc ?_ _)); refine blk_far ?_ NB379_392.out _; (with_reducible repeat (first | refine blk_drewN ?_ _ | refine blk_drew ?_ | refine blk_alloc ?_ _)); exact BK379.out) hb); have n4_ := Aside0.mk (blk_below (g := gb392) (o := .cells #[.string t389, .string t390] 33 (0, 0)) (by (with_reducible repeat (first | refine blk_drewN ?_ _ | refine blk_drew ?_ | refine blk_alloc ?_ _)); refine blk_put (cs := #[.string t389, .string (⟨#[]⟩ : ByteArray)]) ?_ 1 _ rfl; (with_reducible repeat (first | refine blk_drewN ?_ _ | refine blk_drew ?_ | refine blk_alloc ?_ _)); refine blk_put (cs := #[.string (⟨#[]⟩ : ByteArray), .string (⟨#[]⟩ : ByteArray)]) ?_ 0 _ rfl; (with_reducible repeat (first | refine blk_drewN ?_ _ | refine blk_drew ?_ | refine blk_alloc ?_ _)); exact BK392.out) hb); have n5_ := Aside0.mk (below_step (by repeat (first | (with_reducible first | exact HB.out | apply below_alloc | apply pw_below_drewN | apply below_drew1 | refine below_set ?_ GE377.out | refine below_set ?_ GE379.out | refine below_set ?_ GE392.out) | exact HB.out)) hb); clear HO_4; clear BK377; clear BK379; clear BK392; clear HB; have HO_4 := n0_; have HO397 := n1_; have BK377 := n2_; have BK379 := n3_; have BK392 := n4_; have HB := n5_; clear n0_ n1_ n2_ n3_ n4_ n5_; (try clear hb); (try clear hb2); (try clear hk); (try clear hi); (try clear ho0)) | ((with_reducible refine gate_dst (N := 14) rfl ?_); (try (refine gate_guard (by rfl) ?_; dsimp only)); refine box_event ?hg (N := 14) ?hd (cs := #[.string (⟨#[]⟩ : ByteArray), .string (⟨#[]⟩ : ByteArray)]) (t := 33) ?hr ?_; (case hd => rfl); (case hg => rfl); (case hr => first | (go_simp; done) | (go_simp; rfl)); intro gb398 hg w106 hbox hb; have n0_ := Aside0.mk (Kd.R_below (by (with_reducible repeat (first | apply Kd.R_alloc | apply Kd.R_drewN | apply Kd.R_drew)); exact HO_4.out) hb); have n1_ := Aside0.mk (Kd.R_below (by (with_reducible repeat (first | apply Kd.R_alloc | apply Kd.R_drewN | apply Kd.R_drew)); exact HO397.out) hb); have n2_ := Aside0.mk (blk_below (g := gb377) (o := .cells #[.string x378000_2, .string x378001_2] 33 (0, 0)) (by (with_reducible repeat (first | refine blk_drewN ?_ _ | refine blk_drew ?_ | refine blk_alloc ?_ _)); exact BK377.out) hb); have n3_ := Aside0.mk (blk_below (g := gb379) (o := .cells #[.int .u8 ((rd_T51 l0 x27_2).f0), .string ((rd_T51 l0 x27_2).f1), .int .u16 ((rd_T51 l0 x27_2).f2), .int .u16 ((rd_T51 l0 x27_2).f3)] 51 (0, 0)) (by (with_reducible repeat (first | refine blk_drewN ?_ _ | refine blk_drew ?_ | refine blk_alloc ?_ _)); exact BK379.out) hb); have n4_ := Aside0.mk (blk_below (g := gb392) (o := .cells #[.string t389, .string t390] 33 (0, 0)) (by (with_reducible repeat (first | refine blk_drewN ?_ _ | refine blk_drew ?_ | refine blk_alloc ?_ _)); exact BK392.out) hb); have n5_ := Aside0.mk (below_step (by repeat (first | (with_reducible first | exact HB.out | apply below_alloc | apply pw_below_drewN | apply below_drew1 | refine below_set ?_ GE377.out | refine below_set ?_ GE379.out | refine below_set ?_ GE392.out) | exact HB.out)) hb); have n6_ := Aside0.mk (hbox); have n7_ := Aside0.mk ((by rw [hg]; exact (below_size (by repeat (first | (with_reducible first | exact HB.out | apply below_alloc | apply pw_below_drewN | apply below_drew1 | refine below_set ?_ GE377.out | refine below_set ?_ GE379.out | refine below_set ?_ GE392.out) | exact HB.out))) : w.heap.size ≤ gb398)); have n8_ := Aside0.mk ((by rw [hg]; exact (below_size (by repeat (first | (with_reducible first | exact HB.out | apply below_alloc | apply pw_below_drewN | apply below_drew1 | refine below_set ?_ GE377.out | refine below_set ?_ GE379.out | refine below_set ?_ GE392.out) | exact HB.out))) : w.heap.size ≤ gb398)); have n9_ := Aside0.mk ((by rw [hg]; exact Nat.ne_of_lt (blk_lt (g := gb377) (o := .cells #[.string x378000_2, .string x378001_2] 33 (0, 0)) (by (with_reducible repeat (first | refine blk_drewN ?_ _ | refine blk_drew ?_ | refine blk_alloc ?_ _)); exact BK377.out)) : gb377 ≠ gb398)); have n10_ := Aside0.mk ((by rw [hg]; exact Nat.ne_of_gt (blk_lt (g := gb377) (o := .cells #[.string x378000_2, .string x378001_2] 33 (0, 0)) (by (with_reducible repeat (first | refine blk_drewN ?_ _ | refine blk_drew ?_ | refine blk_alloc ?_ _)); exact BK377.out)) : gb398 ≠ gb377)); have n11_ := Aside0.mk ((by rw [hg]; exact Nat.ne_of_lt (blk_lt (g := gb379) (o := .cells #[.int .u8 ((rd_T51 l0 x27_2).f0), .string ((rd_T51 l0 x27_2).f1), .int .u16 ((rd_T51 l0 x27_2).f2), .int .u16 ((rd_T51 l0 x27_2).f3)] 51 (0, 0)) (by (with_reducible repeat (first | refine blk_drewN ?_ _ | refine blk_drew ?_ | refine blk_alloc ?_ _)); exact BK379.out)) : gb379 ≠ gb398)); have n12_ := Aside0.mk ((by rw [hg]; exact Nat.ne_of_gt (blk_lt (g := gb379) (o := .cells #[.int .u8 ((rd_T51 l0 x27_2).f0), .string ((rd_T51 l0 x27_2).f1), .int .u16 ((rd_T51 l0 x27_2).f2), .int .u16 ((rd_T51 l0 x27_2).f3)] 51 (0, 0)) (by (with_reducible repeat (first | refine blk_drewN ?_ _ | refine blk_drew ?_ | refine blk_alloc ?_ _)); exact BK379.out)) : gb398 ≠ gb379)); have n13_ := Aside0.mk ((by rw [hg]; exact Nat.ne_of_lt (blk_lt (g := gb392) (o := .cells #[.string t389, .string t390] 33 (0, 0)) (by (with_reducible repeat (first | refine blk_drewN ?_ _ | refine blk_drew ?_ | refine blk_alloc ?_ _)); exact BK392.out)) : gb392 ≠ gb398)); have n14_ := Aside0.mk ((by rw [hg]; exact Nat.ne_of_gt (blk_lt (g := gb392) (o := .cells #[.string t389, .string t390] 33 (0, 0)) (by (with_reducible repeat (first | refine blk_drewN ?_ _ | refine blk_drew ?_ | refine blk_alloc ?_ _)); exact BK392.out)) : gb398 ≠ gb392)); clear HO_4; clear HO397; clear BK377; clear BK379; clear BK392; clear HB; have HO_4 := n0_; have HO397 := n1_; have BK377 := n2_; have BK379 := n3_; have BK392 := n4_; have HB := n5_; have BK398 := n6_; have GW398 := n7_; have GE398 := n8_; have NB377_398 := n9_; have NB398_377 := n10_; have NB379_398 := n11_; have NB398_379 := n12_; have NB392_398 := n13_; have NB398_392 := n14_; clear n0_ n1_ n2_ n3_ n4_ n5_ n6_ n7_ n8_ n9_ n10_ n11_ n12_ n13_ n14_; clear hb hbox hg; have hnb107 := NB398_377.out; have hnc107 := NB377_398.out; have hnb108 := NB398_379.out; have hnc108 := NB379_398.out; have hnb109 := NB398_392.out; have hnc109 := NB392_398.out; have hcz110_0 : w106.cell? ⟨gb398, 0, none⟩ = some (.string (⟨#[]⟩ : ByteArray)) := (blk_cell BK398.out 0).trans rfl; have hcz110_1 : w106.cell? ⟨gb398, 1, none⟩ = some (.string (⟨#[]⟩ : ByteArray)) := (blk_cell BK398.out 1).trans rfl; have hfz110_0 := blk_frozen BK398.out 0; have hfz110_1 := blk_frozen BK398.out 1; obtain ⟨Ao111, co111, eo111⟩ := Kd.R_slice HO397.out; subst eo111; obtain ⟨Ao112, co112, eo112⟩ := Kd.R_slice HO_4.out; subst eo112) | (go_at_call 33; (with_reducible refine (ancepsref56_Begins.calls kj71 _ _ t395 _ _ x4_2 true _ ?side1 ?side2 ?side3 ?side4 A80.out).mono ?_); (case side1 => refine (Kd.R_reads' (e := 9) (base := w.heap.size) (ok := fun k_ => (True ∧ some k_ ≠ (.slice Ao112 x4_2.length co112 : Value).ownBlock)) (n := t395.length) (c := co111) ?_).2.2; exact (by (with_reducible repeat (first | apply Kd.R_alloc | apply Kd.R_drewN | apply Kd.R_drew)); exact (Kd.R_mono (Kd.R_far (p := ⟨gb398, 1, none⟩) (Kd.R_far (p := ⟨gb398, 0, none⟩) (Kd.R_types HO397.out BK398.out (by decide)) (fun _ hk => hk.2) (.string t393)) (fun _ hk => hk.2) (.string t394)) (fun _ h_ => h_.1)))); (case side2 => exact (Kd.R_reads' HO397.out).2.1); (case side3 => refine (Kd.R_reads' (e := 9) (base := w.heap.size) (ok := fun k_ => (True ∧ some k_ ≠ (.slice Ao111 t395.length co111 : Value).ownBlock)) (n := x4_2.length) (c := co112) ?_).2.2; exact (by (with_reducible repeat (first | apply Kd.R_alloc | apply Kd.R_drewN | apply Kd.R_drew)); exact (Kd.R_mono (Kd.R_far (p := ⟨gb398, 1, none⟩) (Kd.R_far (p := ⟨gb398, 0, none⟩) (Kd.R_types HO_4.out BK398.out (by decide)) (fun _ hk => hk.2) (.string t393)) (fun _ hk => hk.2) (.string t394)) (fun _ h_ => h_.1)))); (case side4 => exact (Kd.R_reads' HO_4.out).2.1); rintro e w' ⟨rfl, ⟨nd, rfl⟩⟩; have hcz113_0 : w106.cell? ⟨gb377, 0, none⟩ = some (.string x378000_2) := (blk_cell BK377.out 0).trans rfl; have hcz113_1 : w106.cell? ⟨gb377, 1, none⟩ = some (.string x378001_2) := (blk_cell BK377.out 1).trans rfl; have hfz113_0 := blk_frozen BK377.out 0; have hfz113_1 := blk_frozen BK377.out 1))
                                        go_meet
                                        case rel => exact ⟨_, (t395), ((t395.length : Int)), (t393), (t394), (by first | rfl | (simp; done) | (simp [*]; done)), H', ⟨by have := HJ1.out; have := HK2.out; have := HJ64.out; have := HJ71.out; first | omega | exact Nat.le_refl _⟩, ⟨by (with_reducible repeat (first | apply Kd.R_alloc | apply Kd.R_drewN | apply Kd.R_drew)); exact Kd.R_mono (Kd.R_far (p := ⟨gb377, 1, none⟩) (Kd.R_far (p := ⟨gb377, 0, none⟩) (Kd.R_far (p := ⟨gb398, 1, none⟩) (Kd.R_far (p := ⟨gb398, 0, none⟩) (Kd.R_types (Kd.R_types HO397.out BK398.out (by decide)) BK377.out (by decide)) (fun _ hk => hk.1.2) (.string t393)) (fun _ hk => hk.1.2) (.string t394)) (fun _ hk => hk.2) (.string t393)) (fun _ hk => hk.2) (.string t394)) (fun _ hk => trivial)⟩, ⟨by (with_reducible repeat (first | refine blk_drewN ?_ _ | refine blk_drew ?_ | refine blk_alloc ?_ _)); refine blk_put (cs := #[.string t393, .string x378001_2]) ?_ 1 _ rfl; (with_reducible repeat (first | refine blk_drewN ?_ _ | refine blk_drew ?_ | refine blk_alloc ?_ _)); refine blk_put (cs := #[.string x378000_2, .string x378001_2]) ?_ 0 _ rfl; (with_reducible repeat (first | refine blk_drewN ?_ _ | refine blk_drew ?_ | refine blk_alloc ?_ _)); refine blk_far ?_ NB377_398.out _; (with_reducible repeat (first | refine blk_drewN ?_ _ | refine blk_drew ?_ | refine blk_alloc ?_ _)); refine blk_far ?_ NB377_398.out _; (with_reducible repeat (first | refine blk_drewN ?_ _ | refine blk_drew ?_ | refine blk_alloc ?_ _)); exact BK377.out⟩, ⟨by (with_reducible repeat (first | refine blk_drewN ?_ _ | refine blk_drew ?_ | refine blk_alloc ?_ _)); refine blk_far ?_ NB379_377.out _; (with_reducible repeat (first | refine blk_drewN ?_ _ | refine blk_drew ?_ | refine blk_alloc ?_ _)); refine blk_far ?_ NB379_377.out _; (with_reducible repeat (first | refine blk_drewN ?_ _ | refine blk_drew ?_ | refine blk_alloc ?_ _)); refine blk_far ?_ NB379_398.out _; (with_reducible repeat (first | refine blk_drewN ?_ _ | refine blk_drew ?_ | refine blk_alloc ?_ _)); refine blk_far ?_ NB379_398.out _; (with_reducible repeat (first | refine blk_drewN ?_ _ | refine blk_drew ?_ | refine blk_alloc ?_ _)); exact BK379.out⟩, ⟨by repeat (first | (with_reducible first | exact HB.out | apply below_alloc | apply pw_below_drewN | apply below_drew1 | refine below_set ?_ GE377.out | refine below_set ?_ GE379.out | refine below_set ?_ GE392.out | refine below_set ?_ GE398.out) | exact HB.out)⟩⟩
                                    · replace c81 := Bool.eq_false_iff.mpr c81
                                      subst c81
                                      have H1 : (some false) = some r := by rw [if_neg (show ¬ (false = true) by decide)] at H; exact H
                                      clear H
                                      have H := H1
                                      clear H1
                                      obtain rfl := Option.some.inj H
                                      have hnb114 := NB377_379.out
                                      have hnc114 := NB379_377.out
                                      have hcz115_0 : wc.cell? ⟨gb377, 0, none⟩ = some (.string x378000_2) := (blk_cell BK377.out 0).trans rfl
                                      have hcz115_1 : wc.cell? ⟨gb377, 1, none⟩ = some (.string x378001_2) := (blk_cell BK377.out 1).trans rfl
                                      have hfz115_0 := blk_frozen BK377.out 0
                                      have hfz115_1 := blk_frozen BK377.out 1
                                      go_wp2_with (first | ((with_reducible refine gate_callee (f := 27) rfl ?_); refine goesL_ (some 60) rfl rfl Try.func27 (by kernel_rfl) rfl #[.agg #[.string x378000_2, .string x378001_2], .int .i64 (Int.tmod (wrap64 ((rd_T51 l0 x27_2).f2)) (wrap64 ((x378001_2.size : Int) + 1))), .int .i64 x11_71] rfl (by (try simp only [List.map_toArray, List.map_cons, List.map_nil]); first | done | rfl | (simp only [List.length_drop, List.length_take]; rfl) | (simp only [decide_eq_true_eq, decide_eq_false_iff_not] at *; congr <;> (first | rfl | (refine (congrArg (Value.int .i64) ?_ : Value.int .i64 _ = Value.int .i64 _); unfold wrap64; omega) | fail)) | fail) ?_; (with_reducible refine (journal_Crash.calls x378000_2 x378001_2 (Int.tmod (wrap64 ((rd_T51 l0 x27_2).f2)) (wrap64 ((x378001_2.size : Int) + 1))) x11_71 t389 t390 t391 _ A77.out).mono ?_); rintro e w116 ⟨rfl, hb⟩; refine ⟨_, rfl, ?_⟩; have n0_ := Aside0.mk (Kd.R_below (by (with_reducible repeat (first | apply Kd.R_alloc | apply Kd.R_drewN | apply Kd.R_drew)); exact HO_4.out) hb); have n1_ := Aside0.mk (blk_below (g := gb377) (o := .cells #[.string x378000_2, .string x378001_2] 33 (0, 0)) (by (with_reducible repeat (first | refine blk_drewN ?_ _ | refine blk_drew ?_ | refine blk_alloc ?_ _)); exact BK377.out) hb); have n2_ := Aside0.mk (blk_below (g := gb379) (o := .cells #[.int .u8 ((rd_T51 l0 x27_2).f0), .string ((rd_T51 l0 x27_2).f1), .int .u16 ((rd_T51 l0 x27_2).f2), .int .u16 ((rd_T51 l0 x27_2).f3)] 51 (0, 0)) (by (with_reducible repeat (first | refine blk_drewN ?_ _ | refine blk_drew ?_ | refine blk_alloc ?_ _)); exact BK379.out) hb); have n3_ := Aside0.mk (below_step (by repeat (first | (with_reducible first | exact HB.out | apply below_alloc | apply pw_below_drewN | apply below_drew1 | refine below_set ?_ GE377.out | refine below_set ?_ GE379.out) | exact HB.out)) hb); clear HO_4; clear BK377; clear BK379; clear HB; have HO_4 := n0_; have BK377 := n1_; have BK379 := n2_; have HB := n3_; clear n0_ n1_ n2_ n3_; (try clear hb); (try clear hb2); (try clear hk); (try clear hi)) | ((with_reducible refine gate_dst (N := 12) rfl ?_); (try (refine gate_guard (by rfl) ?_; dsimp only)); refine box_event ?hg (N := 12) ?hd (cs := #[.string (⟨#[]⟩ : ByteArray), .string (⟨#[]⟩ : ByteArray)]) (t := 33) ?hr ?_; (case hd => rfl); (case hg => rfl); (case hr => first | (go_simp; done) | (go_simp; rfl)); intro gb392 hg w117 hbox hb; have n0_ := Aside0.mk (Kd.R_below (by (with_reducible repeat (first | apply Kd.R_alloc | apply Kd.R_drewN | apply Kd.R_drew)); exact HO_4.out) hb); have n1_ := Aside0.mk (blk_below (g := gb377) (o := .cells #[.string x378000_2, .string x378001_2] 33 (0, 0)) (by (with_reducible repeat (first | refine blk_drewN ?_ _ | refine blk_drew ?_ | refine blk_alloc ?_ _)); exact BK377.out) hb); have n2_ := Aside0.mk (blk_below (g := gb379) (o := .cells #[.int .u8 ((rd_T51 l0 x27_2).f0), .string ((rd_T51 l0 x27_2).f1), .int .u16 ((rd_T51 l0 x27_2).f2), .int .u16 ((rd_T51 l0 x27_2).f3)] 51 (0, 0)) (by (with_reducible repeat (first | refine blk_drewN ?_ _ | refine blk_drew ?_ | refine blk_alloc ?_ _)); exact BK379.out) hb); have n3_ := Aside0.mk (below_step (by repeat (first | (with_reducible first | exact HB.out | apply below_alloc | apply pw_below_drewN | apply below_drew1 | refine below_set ?_ GE377.out | refine below_set ?_ GE379.out) | exact HB.out)) hb); have n4_ := Aside0.mk (hbox); have n5_ := Aside0.mk ((by rw [hg]; exact (below_size (by repeat (first | (with_reducible first | exact HB.out | apply below_alloc | apply pw_below_drewN | apply below_drew1 | refine below_set ?_ GE377.out | refine below_set ?_ GE379.out) | exact HB.out))) : w.heap.size ≤ gb392)); have n6_ := Aside0.mk ((by rw [hg]; exact (below_size (by repeat (first | (with_reducible first | exact HB.out | apply below_alloc | apply pw_below_drewN | apply below_drew1 | refine below_set ?_ GE377.out | refine below_set ?_ GE379.out) | exact HB.out))) : w.heap.size ≤ gb392)); have n7_ := Aside0.mk ((by rw [hg]; exact Nat.ne_of_lt (blk_lt (g := gb377) (o := .cells #[.string x378000_2, .string x378001_2] 33 (0, 0)) (by (with_reducible repeat (first | refine blk_drewN ?_ _ | refine blk_drew ?_ | refine blk_alloc ?_ _)); exact BK377.out)) : gb377 ≠ gb392)); have n8_ := Aside0.mk ((by rw [hg]; exact Nat.ne_of_gt (blk_lt (g := gb377) (o := .cells #[.string x378000_2, .string x378001_2] 33 (0, 0)) (by (with_reducible repeat (first | refine blk_drewN ?_ _ | refine blk_drew ?_ | refine blk_alloc ?_ _)); exact BK377.out)) : gb392 ≠ gb377)); have n9_ := Aside0.mk ((by rw [hg]; exact Nat.ne_of_lt (blk_lt (g := gb379) (o := .cells #[.int .u8 ((rd_T51 l0 x27_2).f0), .string ((rd_T51 l0 x27_2).f1), .int .u16 ((rd_T51 l0 x27_2).f2), .int .u16 ((rd_T51 l0 x27_2).f3)] 51 (0, 0)) (by (with_reducible repeat (first | refine blk_drewN ?_ _ | refine blk_drew ?_ | refine blk_alloc ?_ _)); exact BK379.out)) : gb379 ≠ gb392)); have n10_ := Aside0.mk ((by rw [hg]; exact Nat.ne_of_gt (blk_lt (g := gb379) (o := .cells #[.int .u8 ((rd_T51 l0 x27_2).f0), .string ((rd_T51 l0 x27_2).f1), .int .u16 ((rd_T51 l0 x27_2).f2), .int .u16 ((rd_T51 l0 x27_2).f3)] 51 (0, 0)) (by (with_reducible repeat (first | refine blk_drewN ?_ _ | refine blk_drew ?_ | refine blk_alloc ?_ _)); exact BK379.out)) : gb392 ≠ gb379)); clear HO_4; clear BK377; clear BK379; clear HB; have HO_4 := n0_; have BK377 := n1_; have BK379 := n2_; have HB := n3_; have BK392 := n4_; have GW392 := n5_; have GE392 := n6_; have NB377_392 := n7_; have NB392_377 := n8_; have NB379_392 := n9_; have NB392_379 := n10_; clear n0_ n1_ n2_ n3_ n4_ n5_ n6_ n7_ n8_ n9_ n10_; clear hb hbox hg; have hnb118 := NB392_377.out; have hnc118 := NB377_392.out; have hnb119 := NB392_379.out; have hnc119 := NB379_392.out; have hcz120_0 : w117.cell? ⟨gb392, 0, none⟩ = some (.string (⟨#[]⟩ : ByteArray)) := (blk_cell BK392.out 0).trans rfl; have hcz120_1 : w117.cell? ⟨gb392, 1, none⟩ = some (.string (⟨#[]⟩ : ByteArray)) := (blk_cell BK392.out 1).trans rfl; have hfz120_0 := blk_frozen BK392.out 0; have hfz120_1 := blk_frozen BK392.out 1) | ((with_reducible refine gate_callee (f := 31) rfl ?_); refine goesL_ (some 65) rfl rfl Try.func31 (by kernel_rfl) rfl #[.agg #[.string t389, .string t390]] rfl (by (try simp only [List.map_toArray, List.map_cons, List.map_nil]); first | done | rfl | (simp only [List.length_drop, List.length_take]; rfl) | (simp only [decide_eq_true_eq, decide_eq_false_iff_not] at *; congr <;> (first | rfl | (refine (congrArg (Value.int .i64) ?_ : Value.int .i64 _ = Value.int .i64 _); unfold wrap64; omega) | fail)) | fail) ?_; (with_reducible refine (journal_Recover.calls kj71 t389 t390 t393 t394 t395 _ A78.out).mono ?_); rintro e w121 ⟨v396, rfl, ho0, hb⟩; refine ⟨_, rfl, ?_⟩; have n0_ := Aside0.mk (Kd.R_elder' (by (with_reducible repeat (first | apply Kd.R_alloc | apply Kd.R_drewN | apply Kd.R_drew)); exact (Kd.R_mono (Kd.R_far (p := ⟨gb392, 1, none⟩) (Kd.R_far (p := ⟨gb392, 0, none⟩) (Kd.R_types HO_4.out BK392.out (by decide)) (fun _ hk => hk.2) (.string t389)) (fun _ hk => hk.2) (.string t390)) (fun _ h_ => h_.1))) (Kd.R_base ho0) hb); have n1_ := Aside0.mk (Kd.R_lower (Kd.R_new' ho0 (Kd.R_lt (by (with_reducible repeat (first | apply Kd.R_alloc | apply Kd.R_drewN | apply Kd.R_drew)); exact (Kd.R_mono (Kd.R_far (p := ⟨gb392, 1, none⟩) (Kd.R_far (p := ⟨gb392, 0, none⟩) (Kd.R_types HO_4.out BK392.out (by decide)) (fun _ hk => hk.2) (.string t389)) (fun _ hk => hk.2) (.string t390)) (fun _ h_ => h_.1))))) (below_size (by repeat (first | (with_reducible first | exact HB.out | apply below_alloc | apply pw_below_drewN | apply below_drew1 | refine below_set ?_ GE377.out | refine below_set ?_ GE379.out | refine below_set ?_ GE392.out) | exact HB.out)))); have n2_ := Aside0.mk (blk_below (g := gb377) (o := .cells #[.string x378000_2, .string x378001_2] 33 (0, 0)) (by (with_reducible repeat (first | refine blk_drewN ?_ _ | refine blk_drew ?_ | refine blk_alloc ?_ _)); refine blk_far ?_ NB377_392.out _; (with_reducible repeat (first | refine blk_drewN ?_ _ | refine blk_drew ?_ | refine blk_alloc ?_ _)); refine blk_far ?_ NB377_392.out _; (with_reducible repeat (first | refine blk_drewN ?_ _ | refine blk_drew ?_ | refine blk_alloc ?_ _)); exact BK377.out) hb); have n3_ := Aside0.mk (blk_below (g := gb379) (o := .cells #[.int .u8 ((rd_T51 l0 x27_2).f0), .string ((rd_T51 l0 x27_2).f1), .int .u16 ((rd_T51 l0 x27_2).f2), .int .u16 ((rd_T51 l0 x27_2).f3)] 51 (0, 0)) (by (with_reducible repeat (first | refine blk_drewN ?_ _ | refine blk_drew ?_ | refine blk_alloc ?_ _)); refine blk_far ?_ NB379_392.out _; (with_reducible repeat (first | refine blk_drewN ?_ _ | refine blk_drew ?_ | refine blk_alloc ?_ _)); refine blk_far ?_ NB379_392.out _; (with_reducible repeat (first | refine blk_drewN ?_ _ | refine blk_drew ?_ | refine blk_alloc ?_ _)); exact BK379.out) hb); have n4_ := Aside0.mk (blk_below (g := gb392) (o := .cells #[.string t389, .string t390] 33 (0, 0)) (by (with_reducible repeat (first | refine blk_drewN ?_ _ | refine blk_drew ?_ | refine blk_alloc ?_ _)); refine blk_put (cs := #[.string t389, .string (⟨#[]⟩ : ByteArray)]) ?_ 1 _ rfl; (with_reducible repeat (first | refine blk_drewN ?_ _ | refine blk_drew ?_ | refine blk_alloc ?_ _)); refine blk_put (cs := #[.string (⟨#[]⟩ : ByteArray), .string (⟨#[]⟩ : ByteArray)]) ?_ 0 _ rfl; (with_reducible repeat (first | refine blk_drewN ?_ _ | refine blk_drew ?_ | refine blk_alloc ?_ _)); exact BK392.out) hb); have n5_ := Aside0.mk (below_step (by repeat (first | (with_reducible first | exact HB.out | apply below_alloc | apply pw_below_drewN | apply below_drew1 | refine below_set ?_ GE377.out | refine below_set ?_ GE379.out | refine below_set ?_ GE392.out) | exact HB.out)) hb); clear HO_4; clear BK377; clear BK379; clear BK392; clear HB; have HO_4 := n0_; have HO397 := n1_; have BK377 := n2_; have BK379 := n3_; have BK392 := n4_; have HB := n5_; clear n0_ n1_ n2_ n3_ n4_ n5_; (try clear hb); (try clear hb2); (try clear hk); (try clear hi); (try clear ho0)) | ((with_reducible refine gate_dst (N := 14) rfl ?_); (try (refine gate_guard (by rfl) ?_; dsimp only)); refine box_event ?hg (N := 14) ?hd (cs := #[.string (⟨#[]⟩ : ByteArray), .string (⟨#[]⟩ : ByteArray)]) (t := 33) ?hr ?_; (case hd => rfl); (case hg => rfl); (case hr => first | (go_simp; done) | (go_simp; rfl)); intro gb398 hg w122 hbox hb; have n0_ := Aside0.mk (Kd.R_below (by (with_reducible repeat (first | apply Kd.R_alloc | apply Kd.R_drewN | apply Kd.R_drew)); exact HO_4.out) hb); have n1_ := Aside0.mk (Kd.R_below (by (with_reducible repeat (first | apply Kd.R_alloc | apply Kd.R_drewN | apply Kd.R_drew)); exact HO397.out) hb); have n2_ := Aside0.mk (blk_below (g := gb377) (o := .cells #[.string x378000_2, .string x378001_2] 33 (0, 0)) (by (with_reducible repeat (first | refine blk_drewN ?_ _ | refine blk_drew ?_ | refine blk_alloc ?_ _)); exact BK377.out) hb); have n3_ := Aside0.mk (blk_below (g := gb379) (o := .cells #[.int .u8 ((rd_T51 l0 x27_2).f0), .string ((rd_T51 l0 x27_2).f1), .int .u16 ((rd_T51 l0 x27_2).f2), .int .u16 ((rd_T51 l0 x27_2).f3)] 51 (0, 0)) (by (with_reducible repeat (first | refine blk_drewN ?_ _ | refine blk_drew ?_ | refine blk_alloc ?_ _)); exact BK379.out) hb); have n4_ := Aside0.mk (blk_below (g := gb392) (o := .cells #[.string t389, .string t390] 33 (0, 0)) (by (with_reducible repeat (first | refine blk_drewN ?_ _ | refine blk_drew ?_ | refine blk_alloc ?_ _)); exact BK392.out) hb); have n5_ := Aside0.mk (below_step (by repeat (first | (with_reducible first | exact HB.out | apply below_alloc | apply pw_below_drewN | apply below_drew1 | refine below_set ?_ GE377.out | refine below_set ?_ GE379.out | refine below_set ?_ GE392.out) | exact HB.out)) hb); have n6_ := Aside0.mk (hbox); have n7_ := Aside0.mk ((by rw [hg]; exact (below_size (by repeat (first | (with_reducible first | exact HB.out | apply below_alloc | apply pw_below_drewN | apply below_drew1 | refine below_set ?_ GE377.out | refine below_set ?_ GE379.out | refine below_set ?_ GE392.out) | exact HB.out))) : w.heap.size ≤ gb398)); have n8_ := Aside0.mk ((by rw [hg]; exact (below_size (by repeat (first | (with_reducible first | exact HB.out | apply below_alloc | apply pw_below_drewN | apply below_drew1 | refine below_set ?_ GE377.out | refine below_set ?_ GE379.out | refine below_set ?_ GE392.out) | exact HB.out))) : w.heap.size ≤ gb398)); have n9_ := Aside0.mk ((by rw [hg]; exact Nat.ne_of_lt (blk_lt (g := gb377) (o := .cells #[.string x378000_2, .string x378001_2] 33 (0, 0)) (by (with_reducible repeat (first | refine blk_drewN ?_ _ | refine blk_drew ?_ | refine blk_alloc ?_ _)); exact BK377.out)) : gb377 ≠ gb398)); have n10_ := Aside0.mk ((by rw [hg]; exact Nat.ne_of_gt (blk_lt (g := gb377) (o := .cells #[.string x378000_2, .string x378001_2] 33 (0, 0)) (by (with_reducible repeat (first | refine blk_drewN ?_ _ | refine blk_drew ?_ | refine blk_alloc ?_ _)); exact BK377.out)) : gb398 ≠ gb377)); have n11_ := Aside0.mk ((by rw [hg]; exact Nat.ne_of_lt (blk_lt (g := gb379) (o := .cells #[.int .u8 ((rd_T51 l0 x27_2).f0), .string ((rd_T51 l0 x27_2).f1), .int .u16 ((rd_T51 l0 x27_2).f2), .int .u16 ((rd_T51 l0 x27_2).f3)] 51 (0, 0)) (by (with_reducible repeat (first | refine blk_drewN ?_ _ | refine blk_drew ?_ | refine blk_alloc ?_ _)); exact BK379.out)) : gb379 ≠ gb398)); have n12_ := Aside0.mk ((by rw [hg]; exact Nat.ne_of_gt (blk_lt (g := gb379) (o := .cells #[.int .u8 ((rd_T51 l0 x27_2).f0), .string ((rd_T51 l0 x27_2).f1), .int .u16 ((rd_T51 l0 x27_2).f2), .int .u16 ((rd_T51 l0 x27_2).f3)] 51 (0, 0)) (by (with_reducible repeat (first | refine blk_drewN ?_ _ | refine blk_drew ?_ | refine blk_alloc ?_ _)); exact BK379.out)) : gb398 ≠ gb379)); have n13_ := Aside0.mk ((by rw [hg]; exact Nat.ne_of_lt (blk_lt (g := gb392) (o := .cells #[.string t389, .string t390] 33 (0, 0)) (by (with_reducible repeat (first | refine blk_drewN ?_ _ | refine blk_drew ?_ | refine blk_alloc ?_ _)); exact BK392.out)) : gb392 ≠ gb398)); have n14_ := Aside0.mk ((by rw [hg]; exact Nat.ne_of_gt (blk_lt (g := gb392) (o := .cells #[.string t389, .string t390] 33 (0, 0)) (by (with_reducible repeat (first | refine blk_drewN ?_ _ | refine blk_drew ?_ | refine blk_alloc ?_ _)); exact BK392.out)) : gb398 ≠ gb392)); clear HO_4; clear HO397; clear BK377; clear BK379; clear BK392; clear HB; have HO_4 := n0_; have HO397 := n1_; have BK377 := n2_; have BK379 := n3_; have BK392 := n4_; have HB := n5_; have BK398 := n6_; have GW398 := n7_; have GE398 := n8_; have NB377_398 := n9_; have NB398_377 := n10_; have NB379_398 := n11_; have NB398_379 := n12_; have NB392_398 := n13_; have NB398_392 := n14_; clear n0_ n1_ n2_ n3_ n4_ n5_ n6_ n7_ n8_ n9_ n10_ n11_ n12_ n13_ n14_; clear hb hbox hg; have hnb123 := NB398_377.out; have hnc123 := NB377_398.out; have hnb124 := NB398_379.out; have hnc124 := NB379_398.out; have hnb125 := NB398_392.out; have hnc125 := NB392_398.out; have hcz126_0 : w122.cell? ⟨gb398, 0, none⟩ = some (.string (⟨#[]⟩ : ByteArray)) := (blk_cell BK398.out 0).trans rfl; have hcz126_1 : w122.cell? ⟨gb398, 1, none⟩ = some (.string (⟨#[]⟩ : ByteArray)) := (blk_cell BK398.out 1).trans rfl; have hfz126_0 := blk_frozen BK398.out 0; have hfz126_1 := blk_frozen BK398.out 1; obtain ⟨Ao127, co127, eo127⟩ := Kd.R_slice HO397.out; subst eo127; obtain ⟨Ao128, co128, eo128⟩ := Kd.R_slice HO_4.out; subst eo128) | (go_at_call 33; (with_reducible refine (ancepsref56_Begins.calls kj71 _ _ t395 _ _ x4_2 false _ ?side1 ?side2 ?side3 ?side4 A80.out).mono ?_); (case side1 => refine (Kd.R_reads' (e := 9) (base := w.heap.size) (ok := fun k_ => (True ∧ some k_ ≠ (.slice Ao128 x4_2.length co128 : Value).ownBlock)) (n := t395.length) (c := co127) ?_).2.2; exact (by (with_reducible repeat (first | apply Kd.R_alloc | apply Kd.R_drewN | apply Kd.R_drew)); exact (Kd.R_mono (Kd.R_far (p := ⟨gb398, 1, none⟩) (Kd.R_far (p := ⟨gb398, 0, none⟩) (Kd.R_types HO397.out BK398.out (by decide)) (fun _ hk => hk.2) (.string t393)) (fun _ hk => hk.2) (.string t394)) (fun _ h_ => h_.1)))); (case side2 => exact (Kd.R_reads' HO397.out).2.1); (case side3 => refine (Kd.R_reads' (e := 9) (base := w.heap.size) (ok := fun k_ => (True ∧ some k_ ≠ (.slice Ao127 t395.length co127 : Value).ownBlock)) (n := x4_2.length) (c := co128) ?_).2.2; exact (by (with_reducible repeat (first | apply Kd.R_alloc | apply Kd.R_drewN | apply Kd.R_drew)); exact (Kd.R_mono (Kd.R_far (p := ⟨gb398, 1, none⟩) (Kd.R_far (p := ⟨gb398, 0, none⟩) (Kd.R_types HO_4.out BK398.out (by decide)) (fun _ hk => hk.2) (.string t393)) (fun _ hk => hk.2) (.string t394)) (fun _ h_ => h_.1)))); (case side4 => exact (Kd.R_reads' HO_4.out).2.1); rintro e w' ⟨rfl, ⟨nd, rfl⟩⟩))
                                      go_ret
                                      exact ⟨by first | rfl | (simp [errW_none, errW_some] <;> rfl) | (simp [*, errW_none, errW_some] <;> rfl), by repeat (first | (with_reducible first | exact HB.out | apply below_alloc | apply pw_below_drewN | apply below_drew1 | refine below_set ?_ GE377.out | refine below_set ?_ GE379.out | refine below_set ?_ GE392.out | refine below_set ?_ GE398.out) | exact HB.out)⟩
                                  · rw [if_neg c79] at H
                                    have c79b0 : (t391 == 0) = false := beq_eq_false_iff_ne.mpr c79
                                    have c79b1 : (t391 != 0) = true := bne_iff_ne.mpr c79
                                    obtain rfl := Option.some.inj H
                                    have hnb129 := NB377_379.out
                                    have hnc129 := NB379_377.out
                                    have hcz130_0 : wc.cell? ⟨gb377, 0, none⟩ = some (.string x378000_2) := (blk_cell BK377.out 0).trans rfl
                                    have hcz130_1 : wc.cell? ⟨gb377, 1, none⟩ = some (.string x378001_2) := (blk_cell BK377.out 1).trans rfl
                                    have hfz130_0 := blk_frozen BK377.out 0
                                    have hfz130_1 := blk_frozen BK377.out 1
                                    go_wp2_with (first | ((with_reducible refine gate_callee (f := 27) rfl ?_); refine goesL_ (some 60) rfl rfl Try.func27 (by kernel_rfl) rfl #[.agg #[.string x378000_2, .string x378001_2], .int .i64 (Int.tmod (wrap64 ((rd_T51 l0 x27_2).f2)) (wrap64 ((x378001_2.size : Int) + 1))), .int .i64 x11_71] rfl (by (try simp only [List.map_toArray, List.map_cons, List.map_nil]); first | done | rfl | (simp only [List.length_drop, List.length_take]; rfl) | (simp only [decide_eq_true_eq, decide_eq_false_iff_not] at *; congr <;> (first | rfl | (refine (congrArg (Value.int .i64) ?_ : Value.int .i64 _ = Value.int .i64 _); unfold wrap64; omega) | fail)) | fail) ?_; (with_reducible refine (journal_Crash.calls x378000_2 x378001_2 (Int.tmod (wrap64 ((rd_T51 l0 x27_2).f2)) (wrap64 ((x378001_2.size : Int) + 1))) x11_71 t389 t390 t391 _ A77.out).mono ?_); rintro e w131 ⟨rfl, hb⟩; refine ⟨_, rfl, ?_⟩; have n0_ := Aside0.mk (Kd.R_below (by (with_reducible repeat (first | apply Kd.R_alloc | apply Kd.R_drewN | apply Kd.R_drew)); exact HO_4.out) hb); have n1_ := Aside0.mk (blk_below (g := gb377) (o := .cells #[.string x378000_2, .string x378001_2] 33 (0, 0)) (by (with_reducible repeat (first | refine blk_drewN ?_ _ | refine blk_drew ?_ | refine blk_alloc ?_ _)); exact BK377.out) hb); have n2_ := Aside0.mk (blk_below (g := gb379) (o := .cells #[.int .u8 ((rd_T51 l0 x27_2).f0), .string ((rd_T51 l0 x27_2).f1), .int .u16 ((rd_T51 l0 x27_2).f2), .int .u16 ((rd_T51 l0 x27_2).f3)] 51 (0, 0)) (by (with_reducible repeat (first | refine blk_drewN ?_ _ | refine blk_drew ?_ | refine blk_alloc ?_ _)); exact BK379.out) hb); have n3_ := Aside0.mk (below_step (by repeat (first | (with_reducible first | exact HB.out | apply below_alloc | apply pw_below_drewN | apply below_drew1 | refine below_set ?_ GE377.out | refine below_set ?_ GE379.out) | exact HB.out)) hb); clear HO_4; clear BK377; clear BK379; clear HB; have HO_4 := n0_; have BK377 := n1_; have BK379 := n2_; have HB := n3_; clear n0_ n1_ n2_ n3_; (try clear hb); (try clear hb2); (try clear hk); (try clear hi)) | ((with_reducible refine gate_dst (N := 12) rfl ?_); (try (refine gate_guard (by rfl) ?_; dsimp only)); refine box_event ?hg (N := 12) ?hd (cs := #[.string (⟨#[]⟩ : ByteArray), .string (⟨#[]⟩ : ByteArray)]) (t := 33) ?hr ?_; (case hd => rfl); (case hg => rfl); (case hr => first | (go_simp; done) | (go_simp; rfl)); intro gb392 hg w132 hbox hb; have n0_ := Aside0.mk (Kd.R_below (by (with_reducible repeat (first | apply Kd.R_alloc | apply Kd.R_drewN | apply Kd.R_drew)); exact HO_4.out) hb); have n1_ := Aside0.mk (blk_below (g := gb377) (o := .cells #[.string x378000_2, .string x378001_2] 33 (0, 0)) (by (with_reducible repeat (first | refine blk_drewN ?_ _ | refine blk_drew ?_ | refine blk_alloc ?_ _)); exact BK377.out) hb); have n2_ := Aside0.mk (blk_below (g := gb379) (o := .cells #[.int .u8 ((rd_T51 l0 x27_2).f0), .string ((rd_T51 l0 x27_2).f1), .int .u16 ((rd_T51 l0 x27_2).f2), .int .u16 ((rd_T51 l0 x27_2).f3)] 51 (0, 0)) (by (with_reducible repeat (first | refine blk_drewN ?_ _ | refine blk_drew ?_ | refine blk_alloc ?_ _)); exact BK379.out) hb); have n3_ := Aside0.mk (below_step (by repeat (first | (with_reducible first | exact HB.out | apply below_alloc | apply pw_below_drewN | apply below_drew1 | refine below_set ?_ GE377.out | refine below_set ?_ GE379.out) | exact HB.out)) hb); have n4_ := Aside0.mk (hbox); have n5_ := Aside0.mk ((by rw [hg]; exact (below_size (by repeat (first | (with_reducible first | exact HB.out | apply below_alloc | apply pw_below_drewN | apply below_drew1 | refine below_set ?_ GE377.out | refine below_set ?_ GE379.out) | exact HB.out))) : w.heap.size ≤ gb392)); have n6_ := Aside0.mk ((by rw [hg]; exact (below_size (by repeat (first | (with_reducible first | exact HB.out | apply below_alloc | apply pw_below_drewN | apply below_drew1 | refine below_set ?_ GE377.out | refine below_set ?_ GE379.out) | exact HB.out))) : w.heap.size ≤ gb392)); have n7_ := Aside0.mk ((by rw [hg]; exact Nat.ne_of_lt (blk_lt (g := gb377) (o := .cells #[.string x378000_2, .string x378001_2] 33 (0, 0)) (by (with_reducible repeat (first | refine blk_drewN ?_ _ | refine blk_drew ?_ | refine blk_alloc ?_ _)); exact BK377.out)) : gb377 ≠ gb392)); have n8_ := Aside0.mk ((by rw [hg]; exact Nat.ne_of_gt (blk_lt (g := gb377) (o := .cells #[.string x378000_2, .string x378001_2] 33 (0, 0)) (by (with_reducible repeat (first | refine blk_drewN ?_ _ | refine blk_drew ?_ | refine blk_alloc ?_ _)); exact BK377.out)) : gb392 ≠ gb377)); have n9_ := Aside0.mk ((by rw [hg]; exact Nat.ne_of_lt (blk_lt (g := gb379) (o := .cells #[.int .u8 ((rd_T51 l0 x27_2).f0), .string ((rd_T51 l0 x27_2).f1), .int .u16 ((rd_T51 l0 x27_2).f2), .int .u16 ((rd_T51 l0 x27_2).f3)] 51 (0, 0)) (by (with_reducible repeat (first | refine blk_drewN ?_ _ | refine blk_drew ?_ | refine blk_alloc ?_ _)); exact BK379.out)) : gb379 ≠ gb392)); have n10_ := Aside0.mk ((by rw [hg]; exact Nat.ne_of_gt (blk_lt (g := gb379) (o := .cells #[.int .u8 ((rd_T51 l0 x27_2).f0), .string ((rd_T51 l0 x27_2).f1), .int .u16 ((rd_T51 l0 x27_2).f2), .int .u16 ((rd_T51 l0 x27_2).f3)] 51 (0, 0)) (by (with_reducible repeat (first | refine blk_drewN ?_ _ | refine blk_drew ?_ | refine blk_alloc ?_ _)); exact BK379.out)) : gb392 ≠ gb379)); clear HO_4; clear BK377; clear BK379; clear HB; have HO_4 := n0_; have BK377 := n1_; have BK379 := n2_; have HB := n3_; have BK392 := n4_; have GW392 := n5_; have GE392 := n6_; have NB377_392 := n7_; have NB392_377 := n8_; have NB379_392 := n9_; have NB392_379 := n10_; clear n0_ n1_ n2_ n3_ n4_ n5_ n6_ n7_ n8_ n9_ n10_; clear hb hbox hg; have hnb133 := NB392_377.out; have hnc133 := NB377_392.out; have hnb134 := NB392_379.out; have hnc134 := NB379_392.out; have hcz135_0 : w132.cell? ⟨gb392, 0, none⟩ = some (.string (⟨#[]⟩ : ByteArray)) := (blk_cell BK392.out 0).trans rfl; have hcz135_1 : w132.cell? ⟨gb392, 1, none⟩ = some (.string (⟨#[]⟩ : ByteArray)) := (blk_cell BK392.out 1).trans rfl; have hfz135_0 := blk_frozen BK392.out 0; have hfz135_1 := blk_frozen BK392.out 1) | ((with_reducible refine gate_callee (f := 31) rfl ?_); refine goesL_ (some 65) rfl rfl Try.func31 (by kernel_rfl) rfl #[.agg #[.string t389, .string t390]] rfl (by (try simp only [List.map_toArray, List.map_cons, List.map_nil]); first | done | rfl | (simp only [List.length_drop, List.length_take]; rfl) | (simp only [decide_eq_true_eq, decide_eq_false_iff_not] at *; congr <;> (first | rfl | (refine (congrArg (Value.int .i64) ?_ : Value.int .i64 _ = Value.int .i64 _); unfold wrap64; omega) | fail)) | fail) ?_; (with_reducible refine (journal_Recover.calls kj71 t389 t390 t393 t394 t395 _ A78.out).mono ?_); rintro e w136 ⟨v396, rfl, ho0, hb⟩; refine ⟨_, rfl, ?_⟩; have n0_ := Aside0.mk (Kd.R_elder' (by (with_reducible repeat (first | apply Kd.R_alloc | apply Kd.R_drewN | apply Kd.R_drew)); exact (Kd.R_mono (Kd.R_far (p := ⟨gb392, 1, none⟩) (Kd.R_far (p := ⟨gb392, 0, none⟩) (Kd.R_types HO_4.out BK392.out (by decide)) (fun _ hk => hk.2) (.string t389)) (fun _ hk => hk.2) (.string t390)) (fun _ h_ => h_.1))) (Kd.R_base ho0) hb); have n1_ := Aside0.mk (Kd.R_lower (Kd.R_new' ho0 (Kd.R_lt (by (with_reducible repeat (first | apply Kd.R_alloc | apply Kd.R_drewN | apply Kd.R_drew)); exact (Kd.R_mono (Kd.R_far (p := ⟨gb392, 1, none⟩) (Kd.R_far (p := ⟨gb392, 0, none⟩) (Kd.R_types HO_4.out BK392.out (by decide)) (fun _ hk => hk.2) (.string t389)) (fun _ hk => hk.2) (.string t390)) (fun _ h_ => h_.1))))) (below_size (by repeat (first | (with_reducible first | exact HB.out | apply below_alloc | apply pw_below_drewN | apply below_drew1 | refine below_set ?_ GE377.out | refine below_set ?_ GE379.out | refine below_set ?_ GE392.out) | exact HB.out)))); have n2_ := Aside0.mk (blk_below (g := gb377) (o := .cells #[.string x378000_2, .string x378001_2] 33 (0, 0)) (by (with_reducible repeat (first | refine blk_drewN ?_ _ | refine blk_drew ?_ | refine blk_alloc ?_ _)); refine blk_far ?_ NB377_392.out _; (with_reducible repeat (first | refine blk_drewN ?_ _ | refine blk_drew ?_ | refine blk_alloc ?_ _)); refine blk_far ?_ NB377_392.out _; (with_reducible repeat (first | refine blk_drewN ?_ _ | refine blk_drew ?_ | refine blk_alloc ?_ _)); exact BK377.out) hb); have n3_ := Aside0.mk (blk_below (g := gb379) (o := .cells #[.int .u8 ((rd_T51 l0 x27_2).f0), .string ((rd_T51 l0 x27_2).f1), .int .u16 ((rd_T51 l0 x27_2).f2), .int .u16 ((rd_T51 l0 x27_2).f3)] 51 (0, 0)) (by (with_reducible repeat (first | refine blk_drewN ?_ _ | refine blk_drew ?_ | refine blk_alloc ?_ _)); refine blk_far ?_ NB379_392.out _; (with_reducible repeat (first | refine blk_drewN ?_ _ | refine blk_drew ?_ | refine blk_alloc ?_ _)); refine blk_far ?_ NB379_392.out _; (with_reducible repeat (first | refine blk_drewN ?_ _ | refine blk_drew ?_ | refine blk_alloc ?_ _)); exact BK379.out) hb); have n4_ := Aside0.mk (blk_below (g := gb392) (o := .cells #[.string t389, .string t390] 33 (0, 0)) (by (with_reducible repeat (first | refine blk_drewN ?_ _ | refine blk_drew ?_ | refine blk_alloc ?_ _)); refine blk_put (cs := #[.string t389, .string (⟨#[]⟩ : ByteArray)]) ?_ 1 _ rfl; (with_reducible repeat (first | refine blk_drewN ?_ _ | refine blk_drew ?_ | refine blk_alloc ?_ _)); refine blk_put (cs := #[.string (⟨#[]⟩ : ByteArray), .string (⟨#[]⟩ : ByteArray)]) ?_ 0 _ rfl; (with_reducible repeat (first | refine blk_drewN ?_ _ | refine blk_drew ?_ | refine blk_alloc ?_ _)); exact BK392.out) hb); have n5_ := Aside0.mk (below_step (by repeat (first | (with_reducible first | exact HB.out | apply below_alloc | apply pw_below_drewN | apply below_drew1 | refine below_set ?_ GE377.out | refine below_set ?_ GE379.out | refine below_set ?_ GE392.out) | exact HB.out)) hb); clear HO_4; clear BK377; clear BK379; clear BK392; clear HB; have HO_4 := n0_; have HO397 := n1_; have BK377 := n2_; have BK379 := n3_; have BK392 := n4_; have HB := n5_; clear n0_ n1_ n2_ n3_ n4_ n5_; (try clear hb); (try clear hb2); (try clear hk); (try clear hi); (try clear ho0)) | ((with_reducible refine gate_dst (N := 14) rfl ?_); (try (refine gate_guard (by rfl) ?_; dsimp only)); refine box_event ?hg (N := 14) ?hd (cs := #[.string (⟨#[]⟩ : ByteArray), .string (⟨#[]⟩ : ByteArray)]) (t := 33) ?hr ?_; (case hd => rfl); (case hg => rfl); (case hr => first | (go_simp; done) | (go_simp; rfl)); intro gb398 hg w137 hbox hb; have n0_ := Aside0.mk (Kd.R_below (by (with_reducible repeat (first | apply Kd.R_alloc | apply Kd.R_drewN | apply Kd.R_drew)); exact HO_4.out) hb); have n1_ := Aside0.mk (Kd.R_below (by (with_reducible repeat (first | apply Kd.R_alloc | apply Kd.R_drewN | apply Kd.R_drew)); exact HO397.out) hb); have n2_ := Aside0.mk (blk_below (g := gb377) (o := .cells #[.string x378000_2, .string x378001_2] 33 (0, 0)) (by (with_reducible repeat (first | refine blk_drewN ?_ _ | refine blk_drew ?_ | refine blk_alloc ?_ _)); exact BK377.out) hb); have n3_ := Aside0.mk (blk_below (g := gb379) (o := .cells #[.int .u8 ((rd_T51 l0 x27_2).f0), .string ((rd_T51 l0 x27_2).f1), .int .u16 ((rd_T51 l0 x27_2).f2), .int .u16 ((rd_T51 l0 x27_2).f3)] 51 (0, 0)) (by (with_reducible repeat (first | refine blk_drewN ?_ _ | refine blk_drew ?_ | refine blk_alloc ?_ _)); exact BK379.out) hb); have n4_ := Aside0.mk (blk_below (g := gb392) (o := .cells #[.string t389, .string t390] 33 (0, 0)) (by (with_reducible repeat (first | refine blk_drewN ?_ _ | refine blk_drew ?_ | refine blk_alloc ?_ _)); exact BK392.out) hb); have n5_ := Aside0.mk (below_step (by repeat (first | (with_reducible first | exact HB.out | apply below_alloc | apply pw_below_drewN | apply below_drew1 | refine below_set ?_ GE377.out | refine below_set ?_ GE379.out | refine below_set ?_ GE392.out) | exact HB.out)) hb); have n6_ := Aside0.mk (hbox); have n7_ := Aside0.mk ((by rw [hg]; exact (below_size (by repeat (first | (with_reducible first | exact HB.out | apply below_alloc | apply pw_below_drewN | apply below_drew1 | refine below_set ?_ GE377.out | refine below_set ?_ GE379.out | refine below_set ?_ GE392.out) | exact HB.out))) : w.heap.size ≤ gb398)); have n8_ := Aside0.mk ((by rw [hg]; exact (below_size (by repeat (first | (with_reducible first | exact HB.out | apply below_alloc | apply pw_below_drewN | apply below_drew1 | refine below_set ?_ GE377.out | refine below_set ?_ GE379.out | refine below_set ?_ GE392.out) | exact HB.out))) : w.heap.size ≤ gb398)); have n9_ := Aside0.mk ((by rw [hg]; exact Nat.ne_of_lt (blk_lt (g := gb377) (o := .cells #[.string x378000_2, .string x378001_2] 33 (0, 0)) (by (with_reducible repeat (first | refine blk_drewN ?_ _ | refine blk_drew ?_ | refine blk_alloc ?_ _)); exact BK377.out)) : gb377 ≠ gb398)); have n10_ := Aside0.mk ((by rw [hg]; exact Nat.ne_of_gt (blk_lt (g := gb377) (o := .cells #[.string x378000_2, .string x378001_2] 33 (0, 0)) (by (with_reducible repeat (first | refine blk_drewN ?_ _ | refine blk_drew ?_ | refine blk_alloc ?_ _)); exact BK377.out)) : gb398 ≠ gb377)); have n11_ := Aside0.mk ((by rw [hg]; exact Nat.ne_of_lt (blk_lt (g := gb379) (o := .cells #[.int .u8 ((rd_T51 l0 x27_2).f0), .string ((rd_T51 l0 x27_2).f1), .int .u16 ((rd_T51 l0 x27_2).f2), .int .u16 ((rd_T51 l0 x27_2).f3)] 51 (0, 0)) (by (with_reducible repeat (first | refine blk_drewN ?_ _ | refine blk_drew ?_ | refine blk_alloc ?_ _)); exact BK379.out)) : gb379 ≠ gb398)); have n12_ := Aside0.mk ((by rw [hg]; exact Nat.ne_of_gt (blk_lt (g := gb379) (o := .cells #[.int .u8 ((rd_T51 l0 x27_2).f0), .string ((rd_T51 l0 x27_2).f1), .int .u16 ((rd_T51 l0 x27_2).f2), .int .u16 ((rd_T51 l0 x27_2).f3)] 51 (0, 0)) (by (with_reducible repeat (first | refine blk_drewN ?_ _ | refine blk_drew ?_ | refine blk_alloc ?_ _)); exact BK379.out)) : gb398 ≠ gb379)); have n13_ := Aside0.mk ((by rw [hg]; exact Nat.ne_of_lt (blk_lt (g := gb392) (o := .cells #[.string t389, .string t390] 33 (0, 0)) (by (with_reducible repeat (first | refine blk_drewN ?_ _ | refine blk_drew ?_ | refine blk_alloc ?_ _)); exact BK392.out)) : gb392 ≠ gb398)); have n14_ := Aside0.mk ((by rw [hg]; exact Nat.ne_of_gt (blk_lt (g := gb392) (o := .cells #[.string t389, .string t390] 33 (0, 0)) (by (with_reducible repeat (first | refine blk_drewN ?_ _ | refine blk_drew ?_ | refine blk_alloc ?_ _)); exact BK392.out)) : gb398 ≠ gb392)); clear HO_4; clear HO397; clear BK377; clear BK379; clear BK392; clear HB; have HO_4 := n0_; have HO397 := n1_; have BK377 := n2_; have BK379 := n3_; have BK392 := n4_; have HB := n5_; have BK398 := n6_; have GW398 := n7_; have GE398 := n8_; have NB377_398 := n9_; have NB398_377 := n10_; have NB379_398 := n11_; have NB398_379 := n12_; have NB392_398 := n13_; have NB398_392 := n14_; clear n0_ n1_ n2_ n3_ n4_ n5_ n6_ n7_ n8_ n9_ n10_ n11_ n12_ n13_ n14_; clear hb hbox hg; have hnb138 := NB398_377.out; have hnc138 := NB377_398.out; have hnb139 := NB398_379.out; have hnc139 := NB379_398.out; have hnb140 := NB398_392.out; have hnc140 := NB392_398.out; have hcz141_0 : w137.cell? ⟨gb398, 0, none⟩ = some (.string (⟨#[]⟩ : ByteArray)) := (blk_cell BK398.out 0).trans rfl; have hcz141_1 : w137.cell? ⟨gb398, 1, none⟩ = some (.string (⟨#[]⟩ : ByteArray)) := (blk_cell BK398.out 1).trans rfl; have hfz141_0 := blk_frozen BK398.out 0; have hfz141_1 := blk_frozen BK398.out 1))
                                    go_ret
                                    exact ⟨by first | rfl | (simp [errW_none, errW_some] <;> rfl) | (simp [*, errW_none, errW_some] <;> rfl), by repeat (first | (with_reducible first | exact HB.out | apply below_alloc | apply pw_below_drewN | apply below_drew1 | refine below_set ?_ GE377.out | refine below_set ?_ GE379.out | refine below_set ?_ GE392.out | refine below_set ?_ GE398.out) | exact HB.out)⟩
                  case rest =>
                    clear HC17
                    try clear c1
                    try clear c2
                    try clear p2
                    try clear c3
                    try clear p3
                    try clear q3
                    try clear hx3
                    try clear c4
                    try clear c5
                    try clear c6
                    try clear p6
                    try clear c7
                    try clear c8
                    try clear c9
                    try clear c10
                    try clear c11
                    try clear c12
                    try clear c13
                    try clear c14
                    try clear c14b0
                    try clear c15
                    try clear c15b0
                    try clear c16
                    try clear c16b0
                    try clear c19
                    try clear c21
                    try clear c21b0
                    try clear c21b1
                    try clear c23
                    try clear c23b0
                    try clear c23b1
                    try clear c24
                    try clear c25
                    try clear c27
                    try clear c30
                    try clear c31
                    try clear p37
                    try clear q37
                    try clear hx37
                    try clear c38
                    try clear c38b0
                    try clear c38b1
                    try clear c39
                    try clear c44
                    try clear c45
                    try clear c48
                    try clear c53
                    try clear c54
                    try clear c57
                    try clear c57b0
                    try clear c57b1
                    try clear c59
                    try clear c64
                    try clear c64b0
                    try clear c64b1
                    try clear p64
                    try clear c66
                    try clear c69
                    try clear c69b0
                    try clear c70
                    try clear c73
                    try clear c74
                    try clear c74b0
                    try clear c74b1
                    try clear c75
                    try clear c79
                    try clear c79b0
                    try clear c79b1
                    try clear c81
                    try clear c82
                    try clear c82b0
                    try clear c83
                    try clear c87
                    try clear c88
                    try clear c92
                    try clear c93
                    try clear c94
                    try clear c98
                    try clear c102
                    try clear c103
                    try clear c107
                    try clear c108
                    try clear c109
                    try clear c114
                    try clear c118
                    try clear c119
                    try clear c123
                    try clear c124
                    try clear c125
                    try clear c129
                    try clear c133
                    try clear c134
                    try clear c138
                    try clear c139
                    try clear c140
                    try clear hcz104_0
                    try clear hcz104_1
                    try clear hcz110_0
                    try clear hcz110_1
                    try clear hcz113_0
                    try clear hcz113_1
                    try clear hcz115_0
                    try clear hcz115_1
                    try clear hcz120_0
                    try clear hcz120_1
                    try clear hcz126_0
                    try clear hcz126_1
                    try clear hcz130_0
                    try clear hcz130_1
                    try clear hcz135_0
                    try clear hcz135_1
                    try clear hcz13_0
                    try clear hcz13_1
                    try clear hcz141_0
                    try clear hcz141_1
                    try clear hcz20_0
                    try clear hcz20_1
                    try clear hcz20_2
                    try clear hcz20_3
                    try clear hcz26_0
                    try clear hcz26_1
                    try clear hcz27_0
                    try clear hcz27_1
                    try clear hcz27_2
                    try clear hcz27_3
                    try clear hcz32_0
                    try clear hcz32_1
                    try clear hcz40_0
                    try clear hcz40_1
                    try clear hcz41_0
                    try clear hcz41_1
                    try clear hcz41_2
                    try clear hcz41_3
                    try clear hcz46_0
                    try clear hcz46_1
                    try clear hcz47_0
                    try clear hcz47_1
                    try clear hcz47_2
                    try clear hcz47_3
                    try clear hcz49_0
                    try clear hcz49_1
                    try clear hcz50_0
                    try clear hcz50_1
                    try clear hcz50_2
                    try clear hcz50_3
                    try clear hcz55_0
                    try clear hcz55_1
                    try clear hcz56_0
                    try clear hcz56_1
                    try clear hcz56_2
                    try clear hcz56_3
                    try clear hcz60_0
                    try clear hcz60_1
                    try clear hcz63_0
                    try clear hcz63_1
                    try clear hcz67_0
                    try clear hcz67_1
                    try clear hcz67_2
                    try clear hcz67_3
                    try clear hcz68_0
                    try clear hcz68_1
                    try clear hcz71_0
                    try clear hcz71_1
                    try clear hcz71_2
                    try clear hcz71_3
                    try clear hcz76_0
                    try clear hcz76_1
                    try clear hcz76_2
                    try clear hcz76_3
                    try clear hcz84_0
                    try clear hcz84_1
                    try clear hcz89_0
                    try clear hcz89_1
                    try clear hcz95_0
                    try clear hcz95_1
                    try clear hcz99_0
                    try clear hcz99_1
                    try clear hfz104_0
                    try clear hfz104_1
                    try clear hfz110_0
                    try clear hfz110_1
                    try clear hfz113_0
                    try clear hfz113_1
                    try clear hfz115_0
                    try clear hfz115_1
                    try clear hfz120_0
                    try clear hfz120_1
                    try clear hfz126_0
                    try clear hfz126_1
                    try clear hfz130_0
                    try clear hfz130_1
                    try clear hfz135_0
                    try clear hfz135_1
                    try clear hfz13_0
                    try clear hfz13_1
                    try clear hfz141_0
                    try clear hfz141_1
                    try clear hfz20_0
                    try clear hfz20_1
                    try clear hfz20_2
                    try clear hfz20_3
                    try clear hfz26_0
                    try clear hfz26_1
                    try clear hfz27_0
                    try clear hfz27_1
                    try clear hfz27_2
                    try clear hfz27_3
                    try clear hfz32_0
                    try clear hfz32_1
                    try clear hfz40_0
                    try clear hfz40_1
                    try clear hfz41_0
                    try clear hfz41_1
                    try clear hfz41_2
                    try clear hfz41_3
                    try clear hfz46_0
                    try clear hfz46_1
                    try clear hfz47_0
                    try clear hfz47_1
                    try clear hfz47_2
                    try clear hfz47_3
                    try clear hfz49_0
                    try clear hfz49_1
                    try clear hfz50_0
                    try clear hfz50_1
                    try clear hfz50_2
                    try clear hfz50_3
                    try clear hfz55_0
                    try clear hfz55_1
                    try clear hfz56_0
                    try clear hfz56_1
                    try clear hfz56_2
                    try clear hfz56_3
                    try clear hfz60_0
                    try clear hfz60_1
                    try clear hfz63_0
                    try clear hfz63_1
                    try clear hfz67_0
                    try clear hfz67_1
                    try clear hfz67_2
                    try clear hfz67_3
                    try clear hfz68_0
                    try clear hfz68_1
                    try clear hfz71_0
                    try clear hfz71_1
                    try clear hfz71_2
                    try clear hfz71_3
                    try clear hfz76_0
                    try clear hfz76_1
                    try clear hfz76_2
                    try clear hfz76_3
                    try clear hfz84_0
                    try clear hfz84_1
                    try clear hfz89_0
                    try clear hfz89_1
                    try clear hfz95_0
                    try clear hfz95_1
                    try clear hfz99_0
                    try clear hfz99_1
                    try clear hx378_0
                    try clear hx378_1
                    try clear hx378_2
                    try clear hx378_3
                    try clear p2
                    try clear p3
                    try clear p37
                    try clear p378
                    try clear p6
                    try clear p64
                    try clear q3
                    try clear q37
                    try clear q378
                    obtain ⟨kq, x4_16, x5_16, x378000_16, x378001_16, rfl, HA, HJ16, HO_4, BK377, BK379, HB⟩ := hcut
                    cases kq with
                    | zero => exact absurd HA.out (by simp [ancepslaw56_JournalRuns.j4])
                    | succ kj16 =>
                      have H := HA.out
                      clear HA
                      simp only [ancepslaw56_JournalRuns.j4] at H
                      replace H := Option.bind_eq_some_iff.mp H
                      obtain ⟨t400, A1420, H⟩ := H
                      replace H : ((ancepsref56_Same.f kj16 t400 x4_16).bind fun t403 => (if t403 = true then (ancepslaw56_JournalRuns.l0 kj16 x4_16 x5_16 l0 (l0.length : Int) (wrap64 (x27_2 + 1)) x378000_16 x378001_16) else (some false))) = some r := H
                      have A142 := Aside0.mk A1420
                      clear A1420
                      replace H := Option.bind_eq_some_iff.mp H
                      obtain ⟨t403, A1430, H⟩ := H
                      replace H : (if t403 = true then (ancepslaw56_JournalRuns.l0 kj16 x4_16 x5_16 l0 (l0.length : Int) (wrap64 (x27_2 + 1)) x378000_16 x378001_16) else (some false)) = some r := H
                      have A143 := Aside0.mk A1430
                      clear A1430
                      by_cases c144 : t403 = true
                      · subst c144
                        have H1 : (ancepslaw56_JournalRuns.l0 kj16 x4_16 x5_16 l0 (l0.length : Int) (wrap64 (x27_2 + 1)) x378000_16 x378001_16) = some r := by rw [if_pos rfl] at H; exact H
                        clear H
                        have H := H1
                        clear H1
                        have H' := Aside0.mk H
                        clear H
                        have hnb145 := NB377_379.out
                        have hnc145 := NB379_377.out
                        have hcz146_0 : wc.cell? ⟨gb377, 0, none⟩ = some (.string x378000_16) := (blk_cell BK377.out 0).trans rfl
                        have hcz146_1 : wc.cell? ⟨gb377, 1, none⟩ = some (.string x378001_16) := (blk_cell BK377.out 1).trans rfl
                        have hfz146_0 := blk_frozen BK377.out 0
                        have hfz146_1 := blk_frozen BK377.out 1
                        go_wp2_with (first | ((with_reducible refine gate_callee (f := 25) rfl ?_); refine goesL_ (some 118) rfl rfl Try.func25 (by kernel_rfl) rfl #[.agg #[.string x378000_16, .string x378001_16]] rfl (by (try simp only [List.map_toArray, List.map_cons, List.map_nil]); first | done | rfl | (simp only [List.length_drop, List.length_take]; rfl) | (simp only [decide_eq_true_eq, decide_eq_false_iff_not] at *; congr <;> (first | rfl | (refine (congrArg (Value.int .i64) ?_ : Value.int .i64 _ = Value.int .i64 _); unfold wrap64; omega) | fail)) | fail) ?_; (with_reducible refine (journal_Read.calls kj16 x378000_16 x378001_16 t400 _ A142.out).mono ?_); rintro e w147 ⟨v401, rfl, ho0, hb⟩; refine ⟨_, rfl, ?_⟩; have n0_ := Aside0.mk (Kd.R_elder' (by (with_reducible repeat (first | apply Kd.R_alloc | apply Kd.R_drewN | apply Kd.R_drew)); exact HO_4.out) (Kd.R_base ho0) hb); have n1_ := Aside0.mk (Kd.R_lower (Kd.R_new' ho0 (Kd.R_lt (by (with_reducible repeat (first | apply Kd.R_alloc | apply Kd.R_drewN | apply Kd.R_drew)); exact HO_4.out))) (below_size (by repeat (first | (with_reducible first | exact HB.out | apply below_alloc | apply pw_below_drewN | apply below_drew1 | refine below_set ?_ GE377.out | refine below_set ?_ GE379.out) | exact HB.out)))); have n2_ := Aside0.mk (blk_below (g := gb377) (o := .cells #[.string x378000_16, .string x378001_16] 33 (0, 0)) (by (with_reducible repeat (first | refine blk_drewN ?_ _ | refine blk_drew ?_ | refine blk_alloc ?_ _)); exact BK377.out) hb); have n3_ := Aside0.mk (blk_below (g := gb379) (o := .cells #[.int .u8 ((rd_T51 l0 x27_2).f0), .string ((rd_T51 l0 x27_2).f1), .int .u16 ((rd_T51 l0 x27_2).f2), .int .u16 ((rd_T51 l0 x27_2).f3)] 51 (0, 0)) (by (with_reducible repeat (first | refine blk_drewN ?_ _ | refine blk_drew ?_ | refine blk_alloc ?_ _)); exact BK379.out) hb); have n4_ := Aside0.mk (below_step (by repeat (first | (with_reducible first | exact HB.out | apply below_alloc | apply pw_below_drewN | apply below_drew1 | refine below_set ?_ GE377.out | refine below_set ?_ GE379.out) | exact HB.out)) hb); clear HO_4; clear BK377; clear BK379; clear HB; have HO_4 := n0_; have HO402 := n1_; have BK377 := n2_; have BK379 := n3_; have HB := n4_; clear n0_ n1_ n2_ n3_ n4_; (try clear hb); (try clear hb2); (try clear hk); (try clear hi); (try clear ho0); obtain ⟨Ao148, co148, eo148⟩ := Kd.R_slice HO402.out; subst eo148; obtain ⟨Ao149, co149, eo149⟩ := Kd.R_slice HO_4.out; subst eo149) | ((with_reducible refine gate_callee (f := 19) rfl ?_); refine goesL_ (some 120) rfl rfl Try.func19 (by kernel_rfl) rfl #[.slice Ao148 t400.length co148, .slice Ao149 x4_16.length co149] rfl (by (try simp only [List.map_toArray, List.map_cons, List.map_nil]); first | done | rfl | (simp only [List.length_drop, List.length_take]; rfl) | (simp only [decide_eq_true_eq, decide_eq_false_iff_not] at *; congr <;> (first | rfl | (refine (congrArg (Value.int .i64) ?_ : Value.int .i64 _ = Value.int .i64 _); unfold wrap64; omega) | fail)) | fail) ?_; (with_reducible refine (ancepsref56_Same.calls kj16 _ _ t400 _ _ x4_16 true _ ?side1 ?side2 ?side3 ?side4 A143.out).mono ?_); (case side1 => repeat (first | exact (Kd.R_reads' HO402.out).2.2 | (with_reducible refine Kd.C_alloc ?_ _) | (with_reducible refine Kd.C_drewN ?_ _) | (with_reducible refine Kd.C_drew ?_))); (case side2 => exact (Kd.R_reads' HO402.out).2.1); (case side3 => repeat (first | exact (Kd.R_reads' HO_4.out).2.2 | (with_reducible refine Kd.C_alloc ?_ _) | (with_reducible refine Kd.C_drewN ?_ _) | (with_reducible refine Kd.C_drew ?_))); (case side4 => exact (Kd.R_reads' HO_4.out).2.1); rintro e w' ⟨rfl, ⟨nd, rfl⟩⟩; refine ⟨_, rfl, ?_⟩))
                        go_roundg kj16
                        case measure => have := HJ1.out; have := HK2.out; have := HJ16.out; omega
                        case rel => exact ⟨(x4_16), (x5_16), (wrap64 (x27_2 + 1)), (x378000_16), (x378001_16), (by first | rfl | (simp; done) | (simp [*]; done)), (by first | rfl | (simp; done) | (simp [*]; done)), H', ⟨by have := HJ1.out; have := HK2.out; have := HJ16.out; omega⟩, ⟨by (with_reducible repeat (first | apply Kd.R_alloc | apply Kd.R_drewN | apply Kd.R_drew)); exact Kd.R_mono HO_4.out (fun _ hk => trivial)⟩, ⟨by (with_reducible repeat (first | refine blk_drewN ?_ _ | refine blk_drew ?_ | refine blk_alloc ?_ _)); exact BK377.out⟩, ⟨by repeat (first | (with_reducible first | exact HB.out | apply below_alloc | apply pw_below_drewN | apply below_drew1 | refine below_set ?_ GE377.out | refine below_set ?_ GE379.out) | exact HB.out)⟩⟩
                      · replace c144 := Bool.eq_false_iff.mpr c144
                        subst c144
                        have H1 : (some false) = some r := by rw [if_neg (show ¬ (false = true) by decide)] at H; exact H
                        clear H
                        have H := H1
                        clear H1
                        obtain rfl := Option.some.inj H
                        have hnb150 := NB377_379.out
                        have hnc150 := NB379_377.out
                        have hcz151_0 : wc.cell? ⟨gb377, 0, none⟩ = some (.string x378000_16) := (blk_cell BK377.out 0).trans rfl
                        have hcz151_1 : wc.cell? ⟨gb377, 1, none⟩ = some (.string x378001_16) := (blk_cell BK377.out 1).trans rfl
                        have hfz151_0 := blk_frozen BK377.out 0
                        have hfz151_1 := blk_frozen BK377.out 1
                        go_wp2_with (first | ((with_reducible refine gate_callee (f := 25) rfl ?_); refine goesL_ (some 118) rfl rfl Try.func25 (by kernel_rfl) rfl #[.agg #[.string x378000_16, .string x378001_16]] rfl (by (try simp only [List.map_toArray, List.map_cons, List.map_nil]); first | done | rfl | (simp only [List.length_drop, List.length_take]; rfl) | (simp only [decide_eq_true_eq, decide_eq_false_iff_not] at *; congr <;> (first | rfl | (refine (congrArg (Value.int .i64) ?_ : Value.int .i64 _ = Value.int .i64 _); unfold wrap64; omega) | fail)) | fail) ?_; (with_reducible refine (journal_Read.calls kj16 x378000_16 x378001_16 t400 _ A142.out).mono ?_); rintro e w152 ⟨v401, rfl, ho0, hb⟩; refine ⟨_, rfl, ?_⟩; have n0_ := Aside0.mk (Kd.R_elder' (by (with_reducible repeat (first | apply Kd.R_alloc | apply Kd.R_drewN | apply Kd.R_drew)); exact HO_4.out) (Kd.R_base ho0) hb); have n1_ := Aside0.mk (Kd.R_lower (Kd.R_new' ho0 (Kd.R_lt (by (with_reducible repeat (first | apply Kd.R_alloc | apply Kd.R_drewN | apply Kd.R_drew)); exact HO_4.out))) (below_size (by repeat (first | (with_reducible first | exact HB.out | apply below_alloc | apply pw_below_drewN | apply below_drew1 | refine below_set ?_ GE377.out | refine below_set ?_ GE379.out) | exact HB.out)))); have n2_ := Aside0.mk (blk_below (g := gb377) (o := .cells #[.string x378000_16, .string x378001_16] 33 (0, 0)) (by (with_reducible repeat (first | refine blk_drewN ?_ _ | refine blk_drew ?_ | refine blk_alloc ?_ _)); exact BK377.out) hb); have n3_ := Aside0.mk (blk_below (g := gb379) (o := .cells #[.int .u8 ((rd_T51 l0 x27_2).f0), .string ((rd_T51 l0 x27_2).f1), .int .u16 ((rd_T51 l0 x27_2).f2), .int .u16 ((rd_T51 l0 x27_2).f3)] 51 (0, 0)) (by (with_reducible repeat (first | refine blk_drewN ?_ _ | refine blk_drew ?_ | refine blk_alloc ?_ _)); exact BK379.out) hb); have n4_ := Aside0.mk (below_step (by repeat (first | (with_reducible first | exact HB.out | apply below_alloc | apply pw_below_drewN | apply below_drew1 | refine below_set ?_ GE377.out | refine below_set ?_ GE379.out) | exact HB.out)) hb); clear HO_4; clear BK377; clear BK379; clear HB; have HO_4 := n0_; have HO402 := n1_; have BK377 := n2_; have BK379 := n3_; have HB := n4_; clear n0_ n1_ n2_ n3_ n4_; (try clear hb); (try clear hb2); (try clear hk); (try clear hi); (try clear ho0); obtain ⟨Ao153, co153, eo153⟩ := Kd.R_slice HO402.out; subst eo153; obtain ⟨Ao154, co154, eo154⟩ := Kd.R_slice HO_4.out; subst eo154) | ((with_reducible refine gate_callee (f := 19) rfl ?_); refine goesL_ (some 120) rfl rfl Try.func19 (by kernel_rfl) rfl #[.slice Ao153 t400.length co153, .slice Ao154 x4_16.length co154] rfl (by (try simp only [List.map_toArray, List.map_cons, List.map_nil]); first | done | rfl | (simp only [List.length_drop, List.length_take]; rfl) | (simp only [decide_eq_true_eq, decide_eq_false_iff_not] at *; congr <;> (first | rfl | (refine (congrArg (Value.int .i64) ?_ : Value.int .i64 _ = Value.int .i64 _); unfold wrap64; omega) | fail)) | fail) ?_; (with_reducible refine (ancepsref56_Same.calls kj16 _ _ t400 _ _ x4_16 false _ ?side1 ?side2 ?side3 ?side4 A143.out).mono ?_); (case side1 => repeat (first | exact (Kd.R_reads' HO402.out).2.2 | (with_reducible refine Kd.C_alloc ?_ _) | (with_reducible refine Kd.C_drewN ?_ _) | (with_reducible refine Kd.C_drew ?_))); (case side2 => exact (Kd.R_reads' HO402.out).2.1); (case side3 => repeat (first | exact (Kd.R_reads' HO_4.out).2.2 | (with_reducible refine Kd.C_alloc ?_ _) | (with_reducible refine Kd.C_drewN ?_ _) | (with_reducible refine Kd.C_drew ?_))); (case side4 => exact (Kd.R_reads' HO_4.out).2.1); rintro e w' ⟨rfl, ⟨nd, rfl⟩⟩; refine ⟨_, rfl, ?_⟩))
                        go_ret
                        exact ⟨by first | rfl | (simp [errW_none, errW_some] <;> rfl) | (simp [*, errW_none, errW_some] <;> rfl), by repeat (first | (with_reducible first | exact HB.out | apply below_alloc | apply pw_below_drewN | apply below_drew1 | refine below_set ?_ GE377.out | refine below_set ?_ GE379.out) | exact HB.out)⟩
                · rw [if_neg c16] at H
                  exact absurd H (by simp)
              · rw [if_neg c15] at H
                exact absurd H (by simp)
            · rw [if_neg c14] at H
              have c14b0 : decide (x27_2 < (l0.length : Int)) = false := decide_eq_false c14
              clear c14
              obtain rfl := Option.some.inj H
              go_wp2
              go_ret
              exact ⟨by first | rfl | (simp [errW_none, errW_some] <;> rfl) | (simp [*, errW_none, errW_some] <;> rfl), by repeat (first | (with_reducible first | exact HB.out | apply below_alloc | apply pw_below_drewN | apply below_drew1 | refine below_set ?_ GE377.out) | exact HB.out)⟩

end Go.Proofs.Ytoepdplglablcaa.J
