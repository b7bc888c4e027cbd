-- Written by wip/oprint (this session's own program): the machine's side of a proof. Not trusted: Lean checks it.
import Derived.Test.YtoepdplglablcaaJx0
import Derived.Test.YtoepdplglablcaaJx2
import Derived.Test.YtoepdplglablcaaJx3
import Derived.Test.YtoepdplglablcaaJx5
import Derived.Test.YtoepdplglablcaaJx7
namespace Go.Proofs.Ytoepdplglablcaa.J
open Go.RowKit Go.Proofs.YtoepdplglablcaaW.PrintWords Go.Proofs.YtoepdplglablcaaW.PrintLast Go.Proofs.YtoepdplglablcaaW.PrintMore
attribute [local go_sem] max2_int min2_int max_two min_two max_three min_three max_four min_four   -- for this text's walks alone
set_option linter.unusedVariables false
set_option linter.unusedSimpArgs false

/-! ### ancepslaw56_JournalTurn: function 7 -/
mutual
def ancepslaw56_JournalTurn.j0 : Nat → List ByteArray → Int → Bool → Option (Bool)
  | 0, _, _, _ => none
  | k + 1, x0, x1, x21 => if x21 = true then ((ancepslaw56_awake.f k).bind fun t256 => (some t256)) else (ancepslaw56_JournalTurn.l0 k x0 x1 (⟨#[]⟩ : ByteArray) (([] : List Int)) x0 (x0.length : Int) 0)
def ancepslaw56_JournalTurn.l0 : Nat → List ByteArray → Int → ByteArray → List Int → List ByteArray → Int → Int → Option (Bool)
  | 0, _, _, _, _, _, _, _ => none
  | k + 1, x0, x1, x5, x6, x24, x25, x26 => if x26 < x25 then (if 0 ≤ x26 then (if x26 < (x24.length : Int) then ((journal_Frame.f k (rdOf ByteArray.empty x24 x26)).bind fun bt261 => (if bt261.2 = 0 then (if x5.size + bt261.1.size ≤ 9223372036854775807 then (if x6.length < 17592186044416 then (ancepslaw56_JournalTurn.l0 k x0 x1 (x5 ++ bt261.1) (x6 ++ [((x5.size : Int) + (bt261.1.size : Int))]) x24 x25 (wrap64 (x26 + 1))) else (none)) else (none)) else (some (decide (((rdOf ByteArray.empty x24 x26).size : Int) > 400))))) else (none)) else (none)) else (if x5.toList = ([] : List UInt8) then (some true) else (if (wrap64 (8 * (x5.size : Int))) = 0 then (none) else (ancepslaw56_JournalTurn.l1 k x0 x5 x6 (Int.tmod (wrap64 (x1)) (wrap64 (8 * (x5.size : Int)))) 0)))
def ancepslaw56_JournalTurn.l1 : Nat → List ByteArray → ByteArray → List Int → Int → Int → Option (Bool)
  | 0, _, _, _, _, _ => none
  | k + 1, x0, x5, x6, x11, x12 => if x12 < (x6.length : Int) then (if 0 ≤ x12 then (if (rd x6 x12) ≤ (wrap64 (Int.tdiv x11 8)) then (ancepslaw56_JournalTurn.l1 k x0 x5 x6 x11 (wrap64 (x12 + 1))) else ((ancepsref56_Turned.f x5 x11).bind fun t267 => ((journal_Frames.f k t267).bind fun bt268 => (if x12 ≤ (x0.length : Int) then ((ancepsref56_Same.f k bt268.1 (x0.take (x12 : Int).toNat)).bind fun t273 => (if t273 = true then (if x12 = 0 then (if bt268.2 = 0 then (some true) else (if x12 > 0 then (if 0 ≤ (wrap64 (x12 - 1)) then (if (wrap64 (x12 - 1)) < (x6.length : Int) then (some (bt268.2 == (rd x6 (wrap64 (x12 - 1))))) else (none)) else (none)) else (some false))) else (if x12 > 0 then (if 0 ≤ (wrap64 (x12 - 1)) then (if (wrap64 (x12 - 1)) < (x6.length : Int) then (some (bt268.2 == (rd x6 (wrap64 (x12 - 1))))) else (none)) else (none)) else (some false))) else (some false))) else (none))))) else (none)) else ((ancepsref56_Turned.f x5 x11).bind fun t276 => ((journal_Frames.f k t276).bind fun bt277 => (if 0 ≤ x12 then (if x12 ≤ (x0.length : Int) then ((ancepsref56_Same.f k bt277.1 (x0.take (x12 : Int).toNat)).bind fun t282 => (if t282 = true then (if x12 = 0 then (if bt277.2 = 0 then (some true) else (if x12 > 0 then (if 0 ≤ (wrap64 (x12 - 1)) then (if (wrap64 (x12 - 1)) < (x6.length : Int) then (some (bt277.2 == (rd x6 (wrap64 (x12 - 1))))) else (none)) else (none)) else (some false))) else (if x12 > 0 then (if 0 ≤ (wrap64 (x12 - 1)) then (if (wrap64 (x12 - 1)) < (x6.length : Int) then (some (bt277.2 == (rd x6 (wrap64 (x12 - 1))))) else (none)) else (none)) else (some false))) else (some false))) else (none)) else (none))))
end
def ancepslaw56_JournalTurn.f (k : Nat) (l0 : List ByteArray) (a1 : Int) : Option (Bool) := (ancepslaw56_awake.f k).bind fun t255 => (if t255 = true then (ancepslaw56_JournalTurn.j0 k l0 a1 (decide ((l0.length : Int) > 20))) else (ancepslaw56_JournalTurn.j0 k l0 a1 true))
theorem ancepslaw56_JournalTurn.mono_l : ∀ k, (∀ y0 y1 y2, LeO (ancepslaw56_JournalTurn.j0 k y0 y1 y2) (ancepslaw56_JournalTurn.j0 (k + 1) y0 y1 y2)) ∧ (∀ y0 y1 y2 y3 y4 y5 y6, LeO (ancepslaw56_JournalTurn.l0 k y0 y1 y2 y3 y4 y5 y6) (ancepslaw56_JournalTurn.l0 (k + 1) y0 y1 y2 y3 y4 y5 y6)) ∧ (∀ y0 y1 y2 y3 y4, LeO (ancepslaw56_JournalTurn.l1 k y0 y1 y2 y3 y4) (ancepslaw56_JournalTurn.l1 (k + 1) y0 y1 y2 y3 y4))
  | 0 => ⟨fun _ _ _ r h => by simp [ancepslaw56_JournalTurn.j0] at h, fun _ _ _ _ _ _ _ r h => by simp [ancepslaw56_JournalTurn.l0] at h, fun _ _ _ _ _ r h => by simp [ancepslaw56_JournalTurn.l1] at h⟩
  | k + 1 => by
    obtain ⟨ih0, ih1, ih2⟩ := ancepslaw56_JournalTurn.mono_l k
    refine ⟨?_, ?_, ?_⟩
    · intro y0 y1 y2
      unfold ancepslaw56_JournalTurn.j0
      repeat' first
      | (with_reducible exact ih0 _ _ _)
      | (with_reducible exact ih1 _ _ _ _ _ _ _)
      | (with_reducible exact ih2 _ _ _ _ _)
      | (with_reducible exact ancepslaw56_awake.mono _)
      | (with_reducible exact ancepsref56_Same.mono _ _ _)
      | (with_reducible exact journal_Frame.mono _ _)
      | (with_reducible exact journal_Frames.mono _ _)
      | (with_reducible exact LeO.refl _)
      | (with_reducible exact LeO.none _)
      | (with_reducible refine LeO.ite ?_ ?_)
      | (with_reducible refine LeO.bind ?_ (fun _ => ?_))
      | exact ih0 _ _ _
      | exact ih1 _ _ _ _ _ _ _
      | exact ih2 _ _ _ _ _
      | exact ancepslaw56_awake.mono _
      | exact ancepsref56_Same.mono _ _ _
      | exact journal_Frame.mono _ _
      | exact journal_Frames.mono _ _
      | exact LeO.none _
      | refine LeO.ite ?_ ?_
      | refine LeO.bind ?_ (fun _ => ?_)
    · intro y0 y1 y2 y3 y4 y5 y6
      unfold ancepslaw56_JournalTurn.l0
      repeat' first
      | (with_reducible exact ih0 _ _ _)
      | (with_reducible exact ih1 _ _ _ _ _ _ _)
      | (with_reducible exact ih2 _ _ _ _ _)
      | (with_reducible exact ancepslaw56_awake.mono _)
      | (with_reducible exact ancepsref56_Same.mono _ _ _)
      | (with_reducible exact journal_Frame.mono _ _)
      | (with_reducible exact journal_Frames.mono _ _)
      | (with_reducible exact LeO.refl _)
      | (with_reducible exact LeO.none _)
      | (with_reducible refine LeO.ite ?_ ?_)
      | (with_reducible refine LeO.bind ?_ (fun _ => ?_))
      | exact ih0 _ _ _
      | exact ih1 _ _ _ _ _ _ _
      | exact ih2 _ _ _ _ _
      | exact ancepslaw56_awake.mono _
      | exact ancepsref56_Same.mono _ _ _
      | exact journal_Frame.mono _ _
      | exact journal_Frames.mono _ _
      | exact LeO.none _
      | refine LeO.ite ?_ ?_
      | refine LeO.bind ?_ (fun _ => ?_)
    · intro y0 y1 y2 y3 y4
      unfold ancepslaw56_JournalTurn.l1
      repeat' first
      | (with_reducible exact ih0 _ _ _)
      | (with_reducible exact ih1 _ _ _ _ _ _ _)
      | (with_reducible exact ih2 _ _ _ _ _)
      | (with_reducible exact ancepslaw56_awake.mono _)
      | (with_reducible exact ancepsref56_Same.mono _ _ _)
      | (with_reducible exact journal_Frame.mono _ _)
      | (with_reducible exact journal_Frames.mono _ _)
      | (with_reducible exact LeO.refl _)
      | (with_reducible exact LeO.none _)
      | (with_reducible refine LeO.ite ?_ ?_)
      | (with_reducible refine LeO.bind ?_ (fun _ => ?_))
      | exact ih0 _ _ _
      | exact ih1 _ _ _ _ _ _ _
      | exact ih2 _ _ _ _ _
      | exact ancepslaw56_awake.mono _
      | exact ancepsref56_Same.mono _ _ _
      | exact journal_Frame.mono _ _
      | exact journal_Frames.mono _ _
      | exact LeO.none _
      | refine LeO.ite ?_ ?_
      | refine LeO.bind ?_ (fun _ => ?_)
theorem ancepslaw56_JournalTurn.mono : ∀ a0 a1 k, LeO (ancepslaw56_JournalTurn.f k a0 a1) (ancepslaw56_JournalTurn.f (k + 1) a0 a1) := by
  intro a0 a1 k
  obtain ⟨ih0, ih1, ih2⟩ := ancepslaw56_JournalTurn.mono_l k
  unfold ancepslaw56_JournalTurn.f
  repeat' first
      | (with_reducible exact ih0 _ _ _)
      | (with_reducible exact ih1 _ _ _ _ _ _ _)
      | (with_reducible exact ih2 _ _ _ _ _)
      | (with_reducible exact ancepslaw56_awake.mono _)
      | (with_reducible exact ancepsref56_Same.mono _ _ _)
      | (with_reducible exact journal_Frame.mono _ _)
      | (with_reducible exact journal_Frames.mono _ _)
      | (with_reducible exact LeO.refl _)
      | (with_reducible exact LeO.none _)
      | (with_reducible refine LeO.ite ?_ ?_)
      | (with_reducible refine LeO.bind ?_ (fun _ => ?_))
      | exact ih0 _ _ _
      | exact ih1 _ _ _ _ _ _ _
      | exact ih2 _ _ _ _ _
      | exact ancepslaw56_awake.mono _
      | exact ancepsref56_Same.mono _ _ _
      | exact journal_Frame.mono _ _
      | exact journal_Frames.mono _ _
      | exact LeO.none _
      | refine LeO.ite ?_ ?_
      | refine LeO.bind ?_ (fun _ => ?_)
set_option maxHeartbeats 8000000 in
set_option maxRecDepth 100000 in
theorem ancepslaw56_JournalTurn.calls (k : Nat) (A0 : Option Addr) (c0 : Nat) (l0 : List ByteArray) (a1 : Int) (r : Bool) (w : World) (hr0 : Kd.C Kd.string w A0 l0.length l0) (hc0 : l0.length ≤ c0) (h : ancepslaw56_JournalTurn.f k l0 a1 = some r) :
    Calls Try.prog 7 #[.slice A0 l0.length c0, .int .u16 a1] w fun e w' => e = .returned (.bool r) ∧ Below w.heap.size w w' := by
  have HR0 := Aside0.mk hr0
  have HC0 := Aside0.mk hc0
  clear hr0 hc0
  have HB := Aside0.mk (Below.refl w.heap.size w)
  have H : ((ancepslaw56_awake.f k).bind fun t255 => (if t255 = true then (ancepslaw56_JournalTurn.j0 k l0 a1 (decide ((l0.length : Int) > 20))) else (ancepslaw56_JournalTurn.j0 k l0 a1 true))) = some r := h
  clear h
  have HC3 := Aside0.mk H
  clear H
  go_enter Try.func7, Try.ntmps7
  go_upto_region 1 with (fail)
  go_cut [21] (fun v21 wc => ∃ (kq : Nat) (x21_2 : Bool), v21 = .bool x21_2 ∧ Aside0 (ancepslaw56_JournalTurn.j0 kq l0 a1 x21_2 = some r) ∧ Aside0 (kq ≤ k) ∧ Aside0 (Below w.heap.size w wc))
  case first =>
    have H := HC3.out
    clear HC3
    replace H := Option.bind_eq_some_iff.mp H
    obtain ⟨t255, A40, H⟩ := H
    replace H : (if t255 = true then (ancepslaw56_JournalTurn.j0 k l0 a1 (decide ((l0.length : Int) > 20))) else (ancepslaw56_JournalTurn.j0 k l0 a1 true)) = some r := H
    have A4 := Aside0.mk A40
    clear A40
    by_cases c5 : t255 = true
    · subst c5
      have H1 : (ancepslaw56_JournalTurn.j0 k l0 a1 (decide ((l0.length : Int) > 20))) = some r := by rw [if_pos rfl] at H; exact H
      clear H
      have H := H1
      clear H1
      have H' := Aside0.mk H
      clear H
      go_wp2_with (first | ((with_reducible refine gate_callee (f := 11) rfl ?_); refine goesL_ (some 15) rfl rfl Try.func11 (by kernel_rfl) rfl #[] rfl (by (try simp only [List.map_toArray, List.map_cons, List.map_nil]); first | done | rfl | (simp only [List.length_drop, List.length_take]; rfl) | (simp only [decide_eq_true_eq, decide_eq_false_iff_not] at *; congr <;> (first | rfl | (refine (congrArg (Value.int .i64) ?_ : Value.int .i64 _ = Value.int .i64 _); unfold wrap64; omega) | fail)) | fail) ?_; (with_reducible refine (ancepslaw56_awake.calls k  true _ A4.out).mono ?_); rintro e w6 ⟨rfl, hb⟩; refine ⟨_, rfl, ?_⟩; have n0_ := Aside0.mk (below_step (by repeat (first | (with_reducible first | exact HB.out | apply below_alloc | apply pw_below_drewN | apply below_drew1) | exact HB.out)) hb); clear HB; have HB := n0_; clear n0_; (try clear hb); (try clear hb2); (try clear hk); (try clear hi)))
      go_meet
      case rel => exact ⟨_, (decide ((l0.length : Int) > 20)), (by first | rfl | (simp; done) | (simp [*]; done)), H', ⟨by first | omega | exact Nat.le_refl _⟩, ⟨by repeat (first | (with_reducible first | exact HB.out | apply below_alloc | apply pw_below_drewN | apply below_drew1) | exact HB.out)⟩⟩
    · replace c5 := Bool.eq_false_iff.mpr c5
      subst c5
      have H1 : (ancepslaw56_JournalTurn.j0 k l0 a1 true) = some r := by rw [if_neg (show ¬ (false = true) by decide)] at H; exact H
      clear H
      have H := H1
      clear H1
      have H' := Aside0.mk H
      clear H
      go_wp2_with (first | ((with_reducible refine gate_callee (f := 11) rfl ?_); refine goesL_ (some 15) rfl rfl Try.func11 (by kernel_rfl) rfl #[] rfl (by (try simp only [List.map_toArray, List.map_cons, List.map_nil]); first | done | rfl | (simp only [List.length_drop, List.length_take]; rfl) | (simp only [decide_eq_true_eq, decide_eq_false_iff_not] at *; congr <;> (first | rfl | (refine (congrArg (Value.int .i64) ?_ : Value.int .i64 _ = Value.int .i64 _); unfold wrap64; omega) | fail)) | fail) ?_; (with_reducible refine (ancepslaw56_awake.calls k  false _ A4.out).mono ?_); rintro e w7 ⟨rfl, hb⟩; refine ⟨_, rfl, ?_⟩; have n0_ := Aside0.mk (below_step (by repeat (first | (with_reducible first | exact HB.out | apply below_alloc | apply pw_below_drewN | apply below_drew1) | exact HB.out)) hb); clear HB; have HB := n0_; clear n0_; (try clear hb); (try clear hb2); (try clear hk); (try clear hi)))
      go_meet
      case rel => exact ⟨_, (true), (by first | rfl | (simp; done) | (simp [*]; done)), H', ⟨by first | omega | exact Nat.le_refl _⟩, ⟨by repeat (first | (with_reducible first | exact HB.out | apply below_alloc | apply pw_below_drewN | apply below_drew1) | exact HB.out)⟩⟩
  case rest =>
    clear HC3
    try clear c1
    try clear p2
    try clear c5
    try clear p6
    try clear c7
    obtain ⟨kq, x21_2, rfl, HA, HJ2, HB⟩ := hcut
    cases kq with
    | zero => exact absurd HA.out (by simp [ancepslaw56_JournalTurn.j0])
    | succ kj2 =>
      have H := HA.out
      clear HA
      simp only [ancepslaw56_JournalTurn.j0] at H
      by_cases c8 : x21_2 = true
      · subst c8
        have H1 : ((ancepslaw56_awake.f kj2).bind fun t256 => (some t256)) = some r := by rw [if_pos rfl] at H; exact H
        clear H
        have H := H1
        clear H1
        replace H := Option.bind_eq_some_iff.mp H
        obtain ⟨t256, A90, H⟩ := H
        replace H : (some t256) = some r := H
        have A9 := Aside0.mk A90
        clear A90
        obtain rfl := Option.some.inj H
        go_wp2_with (first | ((with_reducible refine gate_callee (f := 11) rfl ?_); refine goesL_ (some 22) rfl rfl Try.func11 (by kernel_rfl) rfl #[] rfl (by (try simp only [List.map_toArray, List.map_cons, List.map_nil]); first | done | rfl | (simp only [List.length_drop, List.length_take]; rfl) | (simp only [decide_eq_true_eq, decide_eq_false_iff_not] at *; congr <;> (first | rfl | (refine (congrArg (Value.int .i64) ?_ : Value.int .i64 _ = Value.int .i64 _); unfold wrap64; omega) | fail)) | fail) ?_; (with_reducible refine (ancepslaw56_awake.calls kj2  t256 _ A9.out).mono ?_); rintro e w10 ⟨rfl, hb⟩; refine ⟨_, rfl, ?_⟩; have n0_ := Aside0.mk (below_step (by repeat (first | (with_reducible first | exact HB.out | apply below_alloc | apply pw_below_drewN | apply below_drew1) | exact HB.out)) hb); clear HB; have HB := n0_; clear n0_; (try clear hb); (try clear hb2); (try clear hk); (try clear hi)))
        go_ret
        exact ⟨by first | rfl | (simp [errW_none, errW_some] <;> rfl) | (simp [*, errW_none, errW_some] <;> rfl), by repeat (first | (with_reducible first | exact HB.out | apply below_alloc | apply pw_below_drewN | apply below_drew1) | exact HB.out)⟩
      · replace c8 := Bool.eq_false_iff.mpr c8
        subst c8
        have H1 : (ancepslaw56_JournalTurn.l0 kj2 l0 a1 (⟨#[]⟩ : ByteArray) (([] : List Int)) l0 (l0.length : Int) 0) = some r := by rw [if_neg (show ¬ (false = true) by decide)] at H; exact H
        clear H
        have H := H1
        clear H1
        obtain ⟨y257, hy257⟩ : ∃ y_ : List Int, y_ = (([] : List Int)) := ⟨_, rfl⟩
        replace H : (ancepslaw56_JournalTurn.l0 kj2 l0 a1 (⟨#[]⟩ : ByteArray) y257 l0 (l0.length : Int) 0) = some r := by first | (rw [hy257]; with_reducible exact H) | (have H2_ := (Option.bind_some _ _).symm.trans H; rw [hy257]; with_reducible exact H2_) | (have H2_ := (Option.bind_some _ _).symm.trans H; with_reducible exact H2_) | with_reducible exact H | (rw [hy257]; exact H) | exact H
        have Ny257 := Aside0.mk hy257
        clear hy257
        have H' := Aside0.mk H
        clear H
        go_wp2_with (first | ((with_reducible refine gate_dst (N := 23) rfl ?_); (try (refine gate_guard (by rfl) ?_; dsimp only)); refine Kd.R_lit (Kd.int .i64) _ 3 ?hg (N := 23) ?hd (xs := ([] : List Int)) (inner := []) (ok := fun _ => True) (okp := fun _ => True) ?hr ?hp (fun _ hk => hk) trivial (Below.refl _ _) (Nat.le_refl _) (by simp) ?_; (case hd => rfl); (case hg => rfl); (case hr => first | (go_simp; done) | (go_simp; rfl)); (case hp => exact (Reps.none _ _)); intro v258 w11 ho12 hb hg_ hnew_; clear hg_ hnew_; (first | rw [← Ny257.out] at ho12 | (simp only [Int.reduceToNat] at ho12; rw [← Ny257.out] at ho12)); have n0_ := Aside0.mk (Kd.R_lower ho12 (below_size (by repeat (first | (with_reducible first | exact HB.out | apply below_alloc | apply pw_below_drewN | apply below_drew1) | exact HB.out)))); have n1_ := Aside0.mk (below_step (by repeat (first | (with_reducible first | exact HB.out | apply below_alloc | apply pw_below_drewN | apply below_drew1) | exact HB.out)) hb); clear HB; have HO259 := n0_; have HB := n1_; clear n0_ n1_; clear hb ho12))
        go_loopg [5, 6, 26] kj2 (fun kq v5 v6 v26 w' => ∃ (x5_2 : ByteArray) (x6_2 : List Int) (x26_2 : Int), v5 = .string x5_2 ∧ v26 = .int .i64 x26_2 ∧ Aside0 (ancepslaw56_JournalTurn.l0 kq l0 a1 x5_2 x6_2 l0 (l0.length : Int) x26_2 = some r) ∧ Aside0 (kq ≤ kj2) ∧ Aside0 (Kd.R (Kd.int .i64) 3 w' w.heap.size (fun _ => True) v6 x6_2) ∧ Aside0 (Below w.heap.size w w'))
        case atStart => exact ⟨((⟨#[]⟩ : ByteArray)), (y257), (0), (by first | rfl | (simp; done) | (simp [*]; done)), (by first | rfl | (simp; done) | (simp [*]; done)), H', ⟨Nat.le_refl _⟩, ⟨by (with_reducible repeat (first | apply Kd.R_alloc | apply Kd.R_drewN | apply Kd.R_drew)); exact HO259.out⟩, ⟨by repeat (first | (with_reducible first | exact HB.out | apply below_alloc | apply pw_below_drewN | apply below_drew1) | exact HB.out)⟩⟩
        case round =>
          clear H'
          try clear c1
          try clear p2
          try clear c5
          try clear p6
          try clear c7
          try clear c8
          try clear c11
          try clear p2
          try clear p6
          obtain ⟨x5_2, x6_2, x26_2, rfl, rfl, HA, HK2, HO_6, HB⟩ := hrel
          cases gk with
          | zero => exact absurd HA.out (by simp [ancepslaw56_JournalTurn.l0])
          | succ k2 =>
            have H := HA.out
            clear HA
            simp only [ancepslaw56_JournalTurn.l0] at H
            by_cases c13 : x26_2 < (l0.length : Int)
            · rw [if_pos c13] at H
              have c13b0 : decide (x26_2 < (l0.length : Int)) = true := decide_eq_true c13
              clear c13
              by_cases c14 : 0 ≤ x26_2
              · rw [if_pos c14] at H
                have c14b0 : decide (0 ≤ x26_2) = true := decide_eq_true c14
                clear c14
                by_cases c15 : x26_2 < (l0.length : Int)
                · rw [if_pos c15] at H
                  have c15b0 : decide (x26_2 < (l0.length : Int)) = true := decide_eq_true c15
                  clear c15
                  replace H := Option.bind_eq_some_iff.mp H
                  obtain ⟨⟨t261, t262⟩, A160, H⟩ := H
                  replace H : (if t262 = 0 then (if x5_2.size + t261.size ≤ 9223372036854775807 then (if x6_2.length < 17592186044416 then (ancepslaw56_JournalTurn.l0 k2 l0 a1 (x5_2 ++ t261) (x6_2 ++ [((x5_2.size : Int) + (t261.size : Int))]) l0 (l0.length : Int) (wrap64 (x26_2 + 1))) else (none)) else (none)) else (some (decide (((rdOf ByteArray.empty l0 x26_2).size : Int) > 400)))) = some r := H
                  have A16 := Aside0.mk A160
                  clear A160
                  by_cases c17 : t262 = 0
                  · rw [if_pos c17] at H
                    have c17b0 : (t262 == 0) = true := beq_iff_eq.mpr c17
                    have c17b1 : (t262 != 0) = false := bne_eq_false_iff_eq.mpr c17
                    clear c17
                    by_cases c18 : x5_2.size + t261.size ≤ 9223372036854775807
                    · rw [if_pos c18] at H
                      have c18b0 := eq_true c18
                      have c18b1 : decide (x5_2.size + t261.size ≤ 9223372036854775807) = true := decide_eq_true c18
                      try have c18b2 : (9223372036854775807 < x5_2.size + t261.size) = False := eq_false (Nat.not_lt.2 c18)
                      by_cases c19 : x6_2.length < 17592186044416
                      · rw [if_pos c19] at H
                        have LMc19 := Aside0.mk c19
                        clear c19
                        obtain ⟨y263, hy263⟩ : ∃ y_ : List Int, y_ = (x6_2 ++ [((x5_2.size : Int) + (t261.size : Int))]) := ⟨_, rfl⟩
                        replace H : (ancepslaw56_JournalTurn.l0 k2 l0 a1 (x5_2 ++ t261) y263 l0 (l0.length : Int) (wrap64 (x26_2 + 1))) = some r := by first | (rw [hy263]; with_reducible exact H) | (have H2_ := (Option.bind_some _ _).symm.trans H; rw [hy263]; with_reducible exact H2_) | (have H2_ := (Option.bind_some _ _).symm.trans H; with_reducible exact H2_) | with_reducible exact H | (rw [hy263]; exact H) | exact H
                        have Ny263 := Aside0.mk hy263
                        clear hy263
                        have H' := Aside0.mk H
                        clear H
                        have p260 : 0 ≤ (x26_2 : Int) := of_decide_eq_true (by first | (with_reducible assumption) | assumption)
                        have q260 : x26_2 < (l0.length : Int) := of_decide_eq_true (by first | (with_reducible assumption) | assumption)
                        obtain ⟨ad260, e260, hx260_0⟩ := Kd.at_string HR0.out x26_2 p260 q260
                        cases e260
                        replace hx260_0 := (HB.out.cell (World.block_lt_of_cell? w _ hx260_0)).trans hx260_0
                        replace p260 := eq_true p260
                        replace q260 := eq_true q260
                        go_wp2_with (first | ((with_reducible refine gate_callee (f := 12) rfl ?_); refine goesL_ (some 32) rfl rfl Try.func12 (by kernel_rfl) rfl #[.string (rdOf ByteArray.empty l0 x26_2)] rfl (by (try simp only [List.map_toArray, List.map_cons, List.map_nil]); first | done | rfl | (simp only [List.length_drop, List.length_take]; rfl) | (simp only [decide_eq_true_eq, decide_eq_false_iff_not] at *; congr <;> (first | rfl | (refine (congrArg (Value.int .i64) ?_ : Value.int .i64 _ = Value.int .i64 _); unfold wrap64; omega) | fail)) | fail) ?_; (with_reducible refine (journal_Frame.calls k2 (rdOf ByteArray.empty l0 x26_2) t261 t262 _ A16.out).mono ?_); rintro e w20 ⟨rfl, hb⟩; refine ⟨_, rfl, ?_⟩; have n0_ := Aside0.mk (Kd.R_below (by (with_reducible repeat (first | apply Kd.R_alloc | apply Kd.R_drewN | apply Kd.R_drew)); exact HO_6.out) hb); have n1_ := Aside0.mk (below_step (by repeat (first | (with_reducible first | exact HB.out | apply below_alloc | apply pw_below_drewN | apply below_drew1) | exact HB.out)) hb); clear HO_6; clear HB; have HO_6 := n0_; have HB := n1_; clear n0_ n1_; (try clear hb); (try clear hb2); (try clear hk); (try clear hi)) | ((with_reducible refine gate_builtin (b := .append) (xs := #[.tmp 43, .tmp 46]) rfl ?_); (try (refine gate_guard (by rfl) ?_; dsimp only)); at_builtin; refine Kd.R_append (Kd.int .i64) (w0 := w) w.heap.size rfl (.tmp 43) (.tmp 46) 43 3 (.int .i64 0) 8 rfl Try.underlying43 info3 rfl (by decide) (by omega) u6 x6_2 ((x5_2.size : Int) + (t261.size : Int)) [.int .i64 ((x5_2.size : Int) + (t261.size : Int))] (fun _ => True) (fun _ => False) rfl rfl ?aP (fun _ hk => hk.elim) ?aF ?aO ?aB ?aS ?aL ?_; (case aP => exact rfl); (case aB => exact (by repeat (first | (with_reducible first | exact HB.out | apply below_alloc | apply pw_below_drewN | apply below_drew1) | exact HB.out))); (case aF => exact (fun _ _ => trivial)); (case aO => exact (by (with_reducible repeat (first | apply Kd.R_alloc | apply Kd.R_drewN | apply Kd.R_drew)); exact HO_6.out)); (case aS => exact (below_size (by repeat (first | (with_reducible first | exact HB.out | apply below_alloc | apply pw_below_drewN | apply below_drew1) | exact HB.out)))); (case aL => have := LMc19.out; omega); intro v264 w21 ho hb hg hat; rw [← Ny263.out] at ho; have n0_ := Aside0.mk (hb); have n1_ := Aside0.mk (ho); clear HB; clear HO_6; have HB := n0_; have HO265 := n1_; clear n0_ n1_; clear ho hb hg hat))
                        go_roundg k2
                        case measure => have := HJ2.out; have := HK2.out; omega
                        case rel => exact ⟨(x5_2 ++ t261), (y263), (wrap64 (x26_2 + 1)), (by first | rfl | (simp; done) | (simp [*]; done)), (by first | rfl | (simp; done) | (simp [*]; done)), H', ⟨by have := HJ2.out; have := HK2.out; omega⟩, ⟨by (with_reducible repeat (first | apply Kd.R_alloc | apply Kd.R_drewN | apply Kd.R_drew)); exact HO265.out⟩, ⟨by repeat (first | (with_reducible first | exact HB.out | apply below_alloc | apply pw_below_drewN | apply below_drew1) | exact HB.out)⟩⟩
                      · rw [if_neg c19] at H
                        exact absurd H (by simp)
                    · rw [if_neg c18] at H
                      exact absurd H (by simp)
                  · rw [if_neg c17] at H
                    have c17b0 : (t262 == 0) = false := beq_eq_false_iff_ne.mpr c17
                    have c17b1 : (t262 != 0) = true := bne_iff_ne.mpr c17
                    obtain rfl := Option.some.inj H
                    have p260 : 0 ≤ (x26_2 : Int) := of_decide_eq_true (by first | (with_reducible assumption) | assumption)
                    have q260 : x26_2 < (l0.length : Int) := of_decide_eq_true (by first | (with_reducible assumption) | assumption)
                    obtain ⟨ad260, e260, hx260_0⟩ := Kd.at_string HR0.out x26_2 p260 q260
                    cases e260
                    replace hx260_0 := (HB.out.cell (World.block_lt_of_cell? w _ hx260_0)).trans hx260_0
                    replace p260 := eq_true p260
                    replace q260 := eq_true q260
                    go_wp2_with (first | ((with_reducible refine gate_callee (f := 12) rfl ?_); refine goesL_ (some 32) rfl rfl Try.func12 (by kernel_rfl) rfl #[.string (rdOf ByteArray.empty l0 x26_2)] rfl (by (try simp only [List.map_toArray, List.map_cons, List.map_nil]); first | done | rfl | (simp only [List.length_drop, List.length_take]; rfl) | (simp only [decide_eq_true_eq, decide_eq_false_iff_not] at *; congr <;> (first | rfl | (refine (congrArg (Value.int .i64) ?_ : Value.int .i64 _ = Value.int .i64 _); unfold wrap64; omega) | fail)) | fail) ?_; (with_reducible refine (journal_Frame.calls k2 (rdOf ByteArray.empty l0 x26_2) t261 t262 _ A16.out).mono ?_); rintro e w22 ⟨rfl, hb⟩; refine ⟨_, rfl, ?_⟩; have n0_ := Aside0.mk (Kd.R_below (by (with_reducible repeat (first | apply Kd.R_alloc | apply Kd.R_drewN | apply Kd.R_drew)); exact HO_6.out) hb); have n1_ := Aside0.mk (below_step (by repeat (first | (with_reducible first | exact HB.out | apply below_alloc | apply pw_below_drewN | apply below_drew1) | exact HB.out)) hb); clear HO_6; clear HB; have HO_6 := n0_; have HB := n1_; clear n0_ n1_; (try clear hb); (try clear hb2); (try clear hk); (try clear hi)))
                    go_ret
                    exact ⟨by first | rfl | (simp [errW_none, errW_some] <;> rfl) | (simp [*, errW_none, errW_some] <;> rfl), by repeat (first | (with_reducible first | exact HB.out | apply below_alloc | apply pw_below_drewN | apply below_drew1) | exact HB.out)⟩
                · rw [if_neg c15] at H
                  exact absurd H (by simp)
              · rw [if_neg c14] at H
                exact absurd H (by simp)
            · rw [if_neg c13] at H
              have c13b0 : decide (x26_2 < (l0.length : Int)) = false := decide_eq_false c13
              clear c13
              by_cases c23 : x5_2.toList = ([] : List UInt8)
              · rw [if_pos c23] at H
                have c23b0 : (x5_2.toList == ([] : List UInt8)) = true := beq_iff_eq.mpr c23
                have c23b1 : (x5_2.toList != ([] : List UInt8)) = false := bne_eq_false_iff_eq.mpr c23
                clear c23
                obtain rfl := Option.some.inj H
                go_wp2
                go_ret
                exact ⟨by first | rfl | (simp [errW_none, errW_some] <;> rfl) | (simp [*, errW_none, errW_some] <;> rfl), by repeat (first | (with_reducible first | exact HB.out | apply below_alloc | apply pw_below_drewN | apply below_drew1) | exact HB.out)⟩
              · rw [if_neg c23] at H
                have c23b0 : (x5_2.toList == ([] : List UInt8)) = false := beq_eq_false_iff_ne.mpr c23
                have c23b1 : (x5_2.toList != ([] : List UInt8)) = true := bne_iff_ne.mpr c23
                by_cases c24 : (wrap64 (8 * (x5_2.size : Int))) = 0
                · rw [if_pos c24] at H
                  exact absurd H (by simp)
                · rw [if_neg c24] at H
                  have c24b0 : ((wrap64 (8 * (x5_2.size : Int))) == 0) = false := beq_eq_false_iff_ne.mpr c24
                  have c24b1 : ((wrap64 (8 * (x5_2.size : Int))) != 0) = true := bne_iff_ne.mpr c24
                  have H' := Aside0.mk H
                  clear H
                  go_wp2
                  go_loopg [12] k2 (fun kq v12 w' => ∃ (x12_3 : Int), v12 = .int .i64 x12_3 ∧ Aside0 (ancepslaw56_JournalTurn.l1 kq l0 x5_2 x6_2 (Int.tmod (wrap64 (a1)) (wrap64 (8 * (x5_2.size : Int)))) x12_3 = some r) ∧ Aside0 (kq ≤ k2) ∧ Aside0 (Kd.R (Kd.int .i64) 3 w' w.heap.size (fun _ => True) u6 x6_2) ∧ Aside0 (Below w.heap.size w w'))
                  case atStart => exact ⟨(0), (by first | rfl | (simp; done) | (simp [*]; done)), H', ⟨Nat.le_refl _⟩, ⟨by (with_reducible repeat (first | apply Kd.R_alloc | apply Kd.R_drewN | apply Kd.R_drew)); exact HO_6.out⟩, ⟨by repeat (first | (with_reducible first | exact HB.out | apply below_alloc | apply pw_below_drewN | apply below_drew1) | exact HB.out)⟩⟩
                  case round =>
                    clear H'
                    try clear c1
                    try clear c2
                    try clear p2
                    try clear q2
                    try clear hx2
                    try clear c5
                    try clear p6
                    try clear c7
                    try clear c8
                    try clear c11
                    try clear c12
                    try clear c13
                    try clear c13b0
                    try clear c14
                    try clear c14b0
                    try clear c15
                    try clear c15b0
                    try clear c17
                    try clear c17b0
                    try clear c17b1
                    try clear c18
                    try clear c18b0
                    try clear c18b1
                    try clear c18b2
                    try clear c19
                    try clear c23
                    try clear c23b0
                    try clear c23b1
                    try clear c24
                    try clear c24b0
                    try clear c24b1
                    try clear hx260_0
                    try clear p2
                    try clear p260
                    try clear p6
                    try clear q260
                    obtain ⟨x12_3, rfl, HA, HK3, HO_6, HB⟩ := hrel
                    cases gk with
                    | zero => exact absurd HA.out (by simp [ancepslaw56_JournalTurn.l1])
                    | succ k3 =>
                      have H := HA.out
                      clear HA
                      simp only [ancepslaw56_JournalTurn.l1] at H
                      by_cases c25 : x12_3 < (x6_2.length : Int)
                      · rw [if_pos c25] at H
                        have c25b0 : decide (x12_3 < (x6_2.length : Int)) = true := decide_eq_true c25
                        clear c25
                        by_cases c26 : 0 ≤ x12_3
                        · rw [if_pos c26] at H
                          have c26b0 : decide (0 ≤ x12_3) = true := decide_eq_true c26
                          clear c26
                          by_cases c27 : (rd x6_2 x12_3) ≤ (wrap64 (Int.tdiv (Int.tmod (wrap64 (a1)) (wrap64 (8 * (x5_2.size : Int)))) 8))
                          · rw [if_pos c27] at H
                            have c27b0 : decide ((rd x6_2 x12_3) ≤ (wrap64 (Int.tdiv (Int.tmod (wrap64 (a1)) (wrap64 (8 * (x5_2.size : Int)))) 8))) = true := decide_eq_true c27
                            clear c27
                            have H' := Aside0.mk H
                            clear H
                            obtain ⟨Ao28, co28, eo28⟩ := Kd.R_slice HO_6.out
                            subst eo28
                            have p266 : 0 ≤ (x12_3 : Int) := of_decide_eq_true (by first | (with_reducible assumption) | assumption)
                            have q266 : x12_3 < (x6_2.length : Int) := of_decide_eq_true (by first | (with_reducible assumption) | assumption)
                            obtain ⟨ad266, e266, hx266_0⟩ := Kd.at_int (Kd.R_reads' HO_6.out).2.2 x12_3 p266 q266
                            cases e266
                            replace p266 := eq_true p266
                            replace q266 := eq_true q266
                            go_wp2
                            go_roundg k3
                            case measure => have := HJ2.out; have := HK2.out; have := HK3.out; omega
                            case rel => exact ⟨(wrap64 (x12_3 + 1)), (by first | rfl | (simp; done) | (simp [*]; done)), H', ⟨by have := HJ2.out; have := HK2.out; have := HK3.out; omega⟩, ⟨by (with_reducible repeat (first | apply Kd.R_alloc | apply Kd.R_drewN | apply Kd.R_drew)); exact HO_6.out⟩, ⟨by repeat (first | (with_reducible first | exact HB.out | apply below_alloc | apply pw_below_drewN | apply below_drew1) | exact HB.out)⟩⟩
                          · rw [if_neg c27] at H
                            have c27b0 : decide ((rd x6_2 x12_3) ≤ (wrap64 (Int.tdiv (Int.tmod (wrap64 (a1)) (wrap64 (8 * (x5_2.size : Int)))) 8))) = false := decide_eq_false c27
                            clear c27
                            replace H := Option.bind_eq_some_iff.mp H
                            obtain ⟨t267, A290, H⟩ := H
                            replace H : ((journal_Frames.f k3 t267).bind fun bt268 => (if x12_3 ≤ (l0.length : Int) then ((ancepsref56_Same.f k3 bt268.1 (l0.take (x12_3 : Int).toNat)).bind fun t273 => (if t273 = true then (if x12_3 = 0 then (if bt268.2 = 0 then (some true) else (if x12_3 > 0 then (if 0 ≤ (wrap64 (x12_3 - 1)) then (if (wrap64 (x12_3 - 1)) < (x6_2.length : Int) then (some (bt268.2 == (rd x6_2 (wrap64 (x12_3 - 1))))) else (none)) else (none)) else (some false))) else (if x12_3 > 0 then (if 0 ≤ (wrap64 (x12_3 - 1)) then (if (wrap64 (x12_3 - 1)) < (x6_2.length : Int) then (some (bt268.2 == (rd x6_2 (wrap64 (x12_3 - 1))))) else (none)) else (none)) else (some false))) else (some false))) else (none))) = some r := H
                            have A29 := Aside0.mk A290
                            clear A290
                            replace H := Option.bind_eq_some_iff.mp H
                            obtain ⟨⟨t268, t269⟩, A300, H⟩ := H
                            replace H : (if x12_3 ≤ (l0.length : Int) then ((ancepsref56_Same.f k3 t268 (l0.take (x12_3 : Int).toNat)).bind fun t273 => (if t273 = true then (if x12_3 = 0 then (if t269 = 0 then (some true) else (if x12_3 > 0 then (if 0 ≤ (wrap64 (x12_3 - 1)) then (if (wrap64 (x12_3 - 1)) < (x6_2.length : Int) then (some (t269 == (rd x6_2 (wrap64 (x12_3 - 1))))) else (none)) else (none)) else (some false))) else (if x12_3 > 0 then (if 0 ≤ (wrap64 (x12_3 - 1)) then (if (wrap64 (x12_3 - 1)) < (x6_2.length : Int) then (some (t269 == (rd x6_2 (wrap64 (x12_3 - 1))))) else (none)) else (none)) else (some false))) else (some false))) else (none)) = some r := H
                            have A30 := Aside0.mk A300
                            clear A300
                            have c31b0 := eq_true (of_decide_eq_true (by first | (with_reducible assumption) | assumption) : 0 ≤ x12_3)
                            by_cases c32 : x12_3 ≤ (l0.length : Int)
                            · rw [if_pos c32] at H
                              have c32b0 := eq_true c32
                              have c32b1 : decide (x12_3 ≤ (l0.length : Int)) = true := decide_eq_true c32
                              clear c32
                              replace H := Option.bind_eq_some_iff.mp H
                              obtain ⟨t273, A330, H⟩ := H
                              replace H : (if t273 = true then (if x12_3 = 0 then (if t269 = 0 then (some true) else (if x12_3 > 0 then (if 0 ≤ (wrap64 (x12_3 - 1)) then (if (wrap64 (x12_3 - 1)) < (x6_2.length : Int) then (some (t269 == (rd x6_2 (wrap64 (x12_3 - 1))))) else (none)) else (none)) else (some false))) else (if x12_3 > 0 then (if 0 ≤ (wrap64 (x12_3 - 1)) then (if (wrap64 (x12_3 - 1)) < (x6_2.length : Int) then (some (t269 == (rd x6_2 (wrap64 (x12_3 - 1))))) else (none)) else (none)) else (some false))) else (some false)) = some r := H
                              have A33 := Aside0.mk A330
                              clear A330
                              by_cases c34 : t273 = true
                              · subst c34
                                have H1 : (if x12_3 = 0 then (if t269 = 0 then (some true) else (if x12_3 > 0 then (if 0 ≤ (wrap64 (x12_3 - 1)) then (if (wrap64 (x12_3 - 1)) < (x6_2.length : Int) then (some (t269 == (rd x6_2 (wrap64 (x12_3 - 1))))) else (none)) else (none)) else (some false))) else (if x12_3 > 0 then (if 0 ≤ (wrap64 (x12_3 - 1)) then (if (wrap64 (x12_3 - 1)) < (x6_2.length : Int) then (some (t269 == (rd x6_2 (wrap64 (x12_3 - 1))))) else (none)) else (none)) else (some false))) = some r := by rw [if_pos rfl] at H; exact H
                                clear H
                                have H := H1
                                clear H1
                                by_cases c35 : x12_3 = 0
                                · rw [if_pos c35] at H
                                  have c35b0 : (x12_3 == 0) = true := beq_iff_eq.mpr c35
                                  have c35b1 : (x12_3 != 0) = false := bne_eq_false_iff_eq.mpr c35
                                  clear c35
                                  by_cases c36 : t269 = 0
                                  · rw [if_pos c36] at H
                                    have c36b0 : (t269 == 0) = true := beq_iff_eq.mpr c36
                                    have c36b1 : (t269 != 0) = false := bne_eq_false_iff_eq.mpr c36
                                    clear c36
                                    obtain rfl := Option.some.inj H
                                    obtain ⟨Ao37, co37, eo37⟩ := Kd.R_slice HO_6.out
                                    subst eo37
                                    have p266 : 0 ≤ (x12_3 : Int) := of_decide_eq_true (by first | (with_reducible assumption) | assumption)
                                    have q266 : x12_3 < (x6_2.length : Int) := of_decide_eq_true (by first | (with_reducible assumption) | assumption)
                                    obtain ⟨ad266, e266, hx266_0⟩ := Kd.at_int (Kd.R_reads' HO_6.out).2.2 x12_3 p266 q266
                                    cases e266
                                    replace p266 := eq_true p266
                                    replace q266 := eq_true q266
                                    go_wp2_with (first | ((with_reducible refine gate_callee (f := 29) rfl ?_); refine goesL_ (some 75) rfl rfl Try.func29 (by kernel_rfl) rfl #[.string x5_2, .int .i64 (Int.tmod (wrap64 (a1)) (wrap64 (8 * (x5_2.size : Int))))] rfl (by (try simp only [List.map_toArray, List.map_cons, List.map_nil]); first | done | rfl | (simp only [List.length_drop, List.length_take]; rfl) | (simp only [decide_eq_true_eq, decide_eq_false_iff_not] at *; congr <;> (first | rfl | (refine (congrArg (Value.int .i64) ?_ : Value.int .i64 _ = Value.int .i64 _); unfold wrap64; omega) | fail)) | fail) ?_; (with_reducible refine (ancepsref56_Turned.calls x5_2 (Int.tmod (wrap64 (a1)) (wrap64 (8 * (x5_2.size : Int)))) t267 _ A29.out).mono ?_); rintro e w38 ⟨rfl, hb⟩; refine ⟨_, rfl, ?_⟩; have n0_ := Aside0.mk (Kd.R_below (by (with_reducible repeat (first | apply Kd.R_alloc | apply Kd.R_drewN | apply Kd.R_drew)); exact HO_6.out) hb); have n1_ := Aside0.mk (below_step (by repeat (first | (with_reducible first | exact HB.out | apply below_alloc | apply pw_below_drewN | apply below_drew1) | exact HB.out)) hb); clear HO_6; clear HB; have HO_6 := n0_; have HB := n1_; clear n0_ n1_; (try clear hb); (try clear hb2); (try clear hk); (try clear hi)) | ((with_reducible refine gate_callee (f := 16) rfl ?_); refine goesL_ (some 76) rfl rfl Try.func16 (by kernel_rfl) rfl #[.string t267] rfl (by (try simp only [List.map_toArray, List.map_cons, List.map_nil]); first | done | rfl | (simp only [List.length_drop, List.length_take]; rfl) | (simp only [decide_eq_true_eq, decide_eq_false_iff_not] at *; congr <;> (first | rfl | (refine (congrArg (Value.int .i64) ?_ : Value.int .i64 _ = Value.int .i64 _); unfold wrap64; omega) | fail)) | fail) ?_; (with_reducible refine (journal_Frames.calls k3 t267 t268 t269 _ A30.out).mono ?_); rintro e w39 ⟨v270, rfl, ho0, hb⟩; refine ⟨_, rfl, ?_⟩; have n0_ := Aside0.mk (Kd.R_below (by (with_reducible repeat (first | apply Kd.R_alloc | apply Kd.R_drewN | apply Kd.R_drew)); exact HO_6.out) hb); have n1_ := Aside0.mk (Kd.R_lower ho0 (below_size (by repeat (first | (with_reducible first | exact HB.out | apply below_alloc | apply pw_below_drewN | apply below_drew1) | exact HB.out)))); have n2_ := Aside0.mk (below_step (by repeat (first | (with_reducible first | exact HB.out | apply below_alloc | apply pw_below_drewN | apply below_drew1) | exact HB.out)) hb); clear HO_6; clear HB; have HO_6 := n0_; have HO271 := n1_; have HB := n2_; clear n0_ n1_ n2_; (try clear hb); (try clear hb2); (try clear hk); (try clear hi); (try clear ho0); obtain ⟨i040, hi040, _, hsz40, _⟩ := info_parts info9; obtain ⟨hcut40, hA40, hC40⟩ := print_take_of (P := Try.prog) Value.string (⟨#[]⟩ : ByteArray) 27 9 .i64 Try.underlying27 hi040 hsz40 A0 c0 l0 x12_3 (of_decide_eq_true (by first | (with_reducible assumption) | assumption)) (of_decide_eq_true (by first | (with_reducible assumption) | assumption)) HC0.out; have HR272 := Aside0.mk (Kd.C_of_reads (h1 := fun _ => rfl) (hA40 _ (Kd.reads_of_C HR0.out))); have HC272 := Aside0.mk hC40; clear hA40 hC40 hi040 hsz40; obtain ⟨Ao41, co41, eo41⟩ := Kd.R_slice HO271.out; subst eo41) | ((with_reducible refine gate_callee (f := 19) rfl ?_); refine goesL_ (some 83) rfl rfl Try.func19 (by kernel_rfl) rfl #[.slice Ao41 t268.length co41, .slice A0 (l0.take (x12_3 : Int).toNat).length c0] rfl (by (try simp only [List.map_toArray, List.map_cons, List.map_nil]); first | done | (rw [show (l0.take (x12_3 : Int).toNat).length = x12_3.toNat from (by rw [List.length_take]; have h_ : (x12_3 : Int) ≤ (l0.length : Int) := of_decide_eq_true (by first | (with_reducible assumption) | assumption); omega)] <;> rfl) | rfl | (simp only [List.length_drop, List.length_take]; rfl) | (simp only [decide_eq_true_eq, decide_eq_false_iff_not] at *; congr <;> (first | rfl | (refine (congrArg (Value.int .i64) ?_ : Value.int .i64 _ = Value.int .i64 _); unfold wrap64; omega) | fail)) | fail) ?_; (with_reducible refine (ancepsref56_Same.calls k3 _ _ t268 _ _ (l0.take (x12_3 : Int).toNat) true _ ?side1 ?side2 ?side3 ?side4 A33.out).mono ?_); (case side1 => repeat (first | exact (Kd.R_reads' HO271.out).2.2 | (with_reducible refine Kd.C_alloc ?_ _) | (with_reducible refine Kd.C_drewN ?_ _) | (with_reducible refine Kd.C_drew ?_))); (case side2 => exact (Kd.R_reads' HO271.out).2.1); (case side3 => repeat (first | exact (Kd.C_below HR272.out HB.out) | (with_reducible refine Kd.C_alloc ?_ _) | (with_reducible refine Kd.C_drewN ?_ _) | (with_reducible refine Kd.C_drew ?_))); (case side4 => exact HC272.out); rintro e w' ⟨rfl, ⟨nd, rfl⟩⟩; refine ⟨_, rfl, ?_⟩))
                                    go_ret
                                    exact ⟨by first | rfl | (simp [errW_none, errW_some] <;> rfl) | (simp [*, errW_none, errW_some] <;> rfl), by repeat (first | (with_reducible first | exact HB.out | apply below_alloc | apply pw_below_drewN | apply below_drew1) | exact HB.out)⟩
                                  · rw [if_neg c36] at H
                                    have c36b0 : (t269 == 0) = false := beq_eq_false_iff_ne.mpr c36
                                    have c36b1 : (t269 != 0) = true := bne_iff_ne.mpr c36
                                    by_cases c42 : x12_3 > 0
                                    · rw [if_pos c42] at H
                                      have c42b0 : decide (0 < x12_3) = true := decide_eq_true c42
                                      clear c42
                                      obtain ⟨ji43, hji43⟩ : ∃ j_ : Int, (wrap64 (x12_3 - 1)) = j_ := ⟨_, rfl⟩
                                      replace H : (if 0 ≤ (ji43) then (if (ji43) < (x6_2.length : Int) then (some (t269 == (rd x6_2 (ji43)))) else (none)) else (none)) = some r := by first | (rw [hji43] at H; exact H) | (simp only [hji43] at H ⊢; exact H)
                                      (try rw [hji43] at A29)
                                      (try rw [hji43] at A30)
                                      (try rw [hji43] at A33)
                                      have hji43w : (IntKind.i64.wrap (x12_3 - 1)) = ji43 := (i64_w _).trans hji43
                                      by_cases c44 : 0 ≤ (ji43)
                                      · rw [if_pos c44] at H
                                        have c44b0 : decide (0 ≤ (ji43)) = true := decide_eq_true c44
                                        clear c44
                                        by_cases c45 : (ji43) < (x6_2.length : Int)
                                        · rw [if_pos c45] at H
                                          have c45b0 : decide ((ji43) < (x6_2.length : Int)) = true := decide_eq_true c45
                                          clear c45
                                          obtain rfl := Option.some.inj H
                                          obtain ⟨Ao46, co46, eo46⟩ := Kd.R_slice HO_6.out
                                          subst eo46
                                          have p266 : 0 ≤ (x12_3 : Int) := of_decide_eq_true (by first | (with_reducible assumption) | assumption)
                                          have q266 : x12_3 < (x6_2.length : Int) := of_decide_eq_true (by first | (with_reducible assumption) | assumption)
                                          obtain ⟨ad266, e266, hx266_0⟩ := Kd.at_int (Kd.R_reads' HO_6.out).2.2 x12_3 p266 q266
                                          cases e266
                                          replace p266 := eq_true p266
                                          replace q266 := eq_true q266
                                          go_wp2_with (first | ((with_reducible refine gate_callee (f := 29) rfl ?_); refine goesL_ (some 75) rfl rfl Try.func29 (by kernel_rfl) rfl #[.string x5_2, .int .i64 (Int.tmod (wrap64 (a1)) (wrap64 (8 * (x5_2.size : Int))))] rfl (by (try simp only [List.map_toArray, List.map_cons, List.map_nil]); first | done | rfl | (simp only [List.length_drop, List.length_take]; rfl) | (simp only [decide_eq_true_eq, decide_eq_false_iff_not] at *; congr <;> (first | rfl | (refine (congrArg (Value.int .i64) ?_ : Value.int .i64 _ = Value.int .i64 _); unfold wrap64; omega) | fail)) | fail) ?_; (with_reducible refine (ancepsref56_Turned.calls x5_2 (Int.tmod (wrap64 (a1)) (wrap64 (8 * (x5_2.size : Int)))) t267 _ A29.out).mono ?_); rintro e w47 ⟨rfl, hb⟩; refine ⟨_, rfl, ?_⟩; have n0_ := Aside0.mk (Kd.R_below (by (with_reducible repeat (first | apply Kd.R_alloc | apply Kd.R_drewN | apply Kd.R_drew)); exact HO_6.out) hb); have n1_ := Aside0.mk (below_step (by repeat (first | (with_reducible first | exact HB.out | apply below_alloc | apply pw_below_drewN | apply below_drew1) | exact HB.out)) hb); clear HO_6; clear HB; have HO_6 := n0_; have HB := n1_; clear n0_ n1_; (try clear hb); (try clear hb2); (try clear hk); (try clear hi)) | ((with_reducible refine gate_callee (f := 16) rfl ?_); refine goesL_ (some 76) rfl rfl Try.func16 (by kernel_rfl) rfl #[.string t267] rfl (by (try simp only [List.map_toArray, List.map_cons, List.map_nil]); first | done | rfl | (simp only [List.length_drop, List.length_take]; rfl) | (simp only [decide_eq_true_eq, decide_eq_false_iff_not] at *; congr <;> (first | rfl | (refine (congrArg (Value.int .i64) ?_ : Value.int .i64 _ = Value.int .i64 _); unfold wrap64; omega) | fail)) | fail) ?_; (with_reducible refine (journal_Frames.calls k3 t267 t268 t269 _ A30.out).mono ?_); rintro e w48 ⟨v270, rfl, ho0, hb⟩; refine ⟨_, rfl, ?_⟩; have n0_ := Aside0.mk (Kd.R_below (by (with_reducible repeat (first | apply Kd.R_alloc | apply Kd.R_drewN | apply Kd.R_drew)); exact HO_6.out) hb); have n1_ := Aside0.mk (Kd.R_lower ho0 (below_size (by repeat (first | (with_reducible first | exact HB.out | apply below_alloc | apply pw_below_drewN | apply below_drew1) | exact HB.out)))); have n2_ := Aside0.mk (below_step (by repeat (first | (with_reducible first | exact HB.out | apply below_alloc | apply pw_below_drewN | apply below_drew1) | exact HB.out)) hb); clear HO_6; clear HB; have HO_6 := n0_; have HO271 := n1_; have HB := n2_; clear n0_ n1_ n2_; (try clear hb); (try clear hb2); (try clear hk); (try clear hi); (try clear ho0); obtain ⟨i049, hi049, _, hsz49, _⟩ := info_parts info9; obtain ⟨hcut49, hA49, hC49⟩ := print_take_of (P := Try.prog) Value.string (⟨#[]⟩ : ByteArray) 27 9 .i64 Try.underlying27 hi049 hsz49 A0 c0 l0 x12_3 (of_decide_eq_true (by first | (with_reducible assumption) | assumption)) (of_decide_eq_true (by first | (with_reducible assumption) | assumption)) HC0.out; have HR272 := Aside0.mk (Kd.C_of_reads (h1 := fun _ => rfl) (hA49 _ (Kd.reads_of_C HR0.out))); have HC272 := Aside0.mk hC49; clear hA49 hC49 hi049 hsz49; obtain ⟨Ao50, co50, eo50⟩ := Kd.R_slice HO271.out; subst eo50) | ((with_reducible refine gate_callee (f := 19) rfl ?_); refine goesL_ (some 83) rfl rfl Try.func19 (by kernel_rfl) rfl #[.slice Ao50 t268.length co50, .slice A0 (l0.take (x12_3 : Int).toNat).length c0] rfl (by (try simp only [List.map_toArray, List.map_cons, List.map_nil]); first | done | (rw [show (l0.take (x12_3 : Int).toNat).length = x12_3.toNat from (by rw [List.length_take]; have h_ : (x12_3 : Int) ≤ (l0.length : Int) := of_decide_eq_true (by first | (with_reducible assumption) | assumption); omega)] <;> rfl) | rfl | (simp only [List.length_drop, List.length_take]; rfl) | (simp only [decide_eq_true_eq, decide_eq_false_iff_not] at *; congr <;> (first | rfl | (refine (congrArg (Value.int .i64) ?_ : Value.int .i64 _ = Value.int .i64 _); unfold wrap64; omega) | fail)) | fail) ?_; (with_reducible refine (ancepsref56_Same.calls k3 _ _ t268 _ _ (l0.take (x12_3 : Int).toNat) true _ ?side1 ?side2 ?side3 ?side4 A33.out).mono ?_); (case side1 => repeat (first | exact (Kd.R_reads' HO271.out).2.2 | (with_reducible refine Kd.C_alloc ?_ _) | (with_reducible refine Kd.C_drewN ?_ _) | (with_reducible refine Kd.C_drew ?_))); (case side2 => exact (Kd.R_reads' HO271.out).2.1); (case side3 => repeat (first | exact (Kd.C_below HR272.out HB.out) | (with_reducible refine Kd.C_alloc ?_ _) | (with_reducible refine Kd.C_drewN ?_ _) | (with_reducible refine Kd.C_drew ?_))); (case side4 => exact HC272.out); rintro e w' ⟨rfl, ⟨nd, rfl⟩⟩; refine ⟨_, rfl, ?_⟩; have p274 : 0 ≤ ((ji43) : Int) := of_decide_eq_true (by first | (with_reducible assumption) | assumption); have q274 : (ji43) < (x6_2.length : Int) := of_decide_eq_true (by first | (with_reducible assumption) | assumption); obtain ⟨ad274, e274, hx274_0⟩ := Kd.at_int (Kd.R_reads' HO_6.out).2.2 (ji43) p274 q274; obtain rfl : ad266 = ad274 := (by injection e274); replace p274 := eq_true p274; replace q274 := eq_true q274))
                                          go_ret
                                          exact ⟨by first | rfl | (simp [errW_none, errW_some] <;> rfl) | (simp only [← hji43]; first | rfl | (simp [errW_none, errW_some] <;> rfl)) | (simp [*, errW_none, errW_some] <;> rfl), by repeat (first | (with_reducible first | exact HB.out | apply below_alloc | apply pw_below_drewN | apply below_drew1) | exact HB.out)⟩
                                        · rw [if_neg c45] at H
                                          exact absurd H (by simp)
                                      · rw [if_neg c44] at H
                                        exact absurd H (by simp)
                                    · rw [if_neg c42] at H
                                      have c42b0 : decide (0 < x12_3) = false := decide_eq_false c42
                                      clear c42
                                      obtain rfl := Option.some.inj H
                                      obtain ⟨Ao51, co51, eo51⟩ := Kd.R_slice HO_6.out
                                      subst eo51
                                      have p266 : 0 ≤ (x12_3 : Int) := of_decide_eq_true (by first | (with_reducible assumption) | assumption)
                                      have q266 : x12_3 < (x6_2.length : Int) := of_decide_eq_true (by first | (with_reducible assumption) | assumption)
                                      obtain ⟨ad266, e266, hx266_0⟩ := Kd.at_int (Kd.R_reads' HO_6.out).2.2 x12_3 p266 q266
                                      cases e266
                                      replace p266 := eq_true p266
                                      replace q266 := eq_true q266
                                      go_wp2_with (first | ((with_reducible refine gate_callee (f := 29) rfl ?_); refine goesL_ (some 75) rfl rfl Try.func29 (by kernel_rfl) rfl #[.string x5_2, .int .i64 (Int.tmod (wrap64 (a1)) (wrap64 (8 * (x5_2.size : Int))))] rfl (by (try simp only [List.map_toArray, List.map_cons, List.map_nil]); first | done | rfl | (simp only [List.length_drop, List.length_take]; rfl) | (simp only [decide_eq_true_eq, decide_eq_false_iff_not] at *; congr <;> (first | rfl | (refine (congrArg (Value.int .i64) ?_ : Value.int .i64 _ = Value.int .i64 _); unfold wrap64; omega) | fail)) | fail) ?_; (with_reducible refine (ancepsref56_Turned.calls x5_2 (Int.tmod (wrap64 (a1)) (wrap64 (8 * (x5_2.size : Int)))) t267 _ A29.out).mono ?_); rintro e w52 ⟨rfl, hb⟩; refine ⟨_, rfl, ?_⟩; have n0_ := Aside0.mk (Kd.R_below (by (with_reducible repeat (first | apply Kd.R_alloc | apply Kd.R_drewN | apply Kd.R_drew)); exact HO_6.out) hb); have n1_ := Aside0.mk (below_step (by repeat (first | (with_reducible first | exact HB.out | apply below_alloc | apply pw_below_drewN | apply below_drew1) | exact HB.out)) hb); clear HO_6; clear HB; have HO_6 := n0_; have HB := n1_; clear n0_ n1_; (try clear hb); (try clear hb2); (try clear hk); (try clear hi)) | ((with_reducible refine gate_callee (f := 16) rfl ?_); refine goesL_ (some 76) rfl rfl Try.func16 (by kernel_rfl) rfl #[.string t267] rfl (by (try simp only [List.map_toArray, List.map_cons, List.map_nil]); first | done | rfl | (simp only [List.length_drop, List.length_take]; rfl) | (simp only [decide_eq_true_eq, decide_eq_false_iff_not] at *; congr <;> (first | rfl | (refine (congrArg (Value.int .i64) ?_ : Value.int .i64 _ = Value.int .i64 _); unfold wrap64; omega) | fail)) | fail) ?_; (with_reducible refine (journal_Frames.calls k3 t267 t268 t269 _ A30.out).mono ?_); rintro e w53 ⟨v270, rfl, ho0, hb⟩; refine ⟨_, rfl, ?_⟩; have n0_ := Aside0.mk (Kd.R_below (by (with_reducible repeat (first | apply Kd.R_alloc | apply Kd.R_drewN | apply Kd.R_drew)); exact HO_6.out) hb); have n1_ := Aside0.mk (Kd.R_lower ho0 (below_size (by repeat (first | (with_reducible first | exact HB.out | apply below_alloc | apply pw_below_drewN | apply below_drew1) | exact HB.out)))); have n2_ := Aside0.mk (below_step (by repeat (first | (with_reducible first | exact HB.out | apply below_alloc | apply pw_below_drewN | apply below_drew1) | exact HB.out)) hb); clear HO_6; clear HB; have HO_6 := n0_; have HO271 := n1_; have HB := n2_; clear n0_ n1_ n2_; (try clear hb); (try clear hb2); (try clear hk); (try clear hi); (try clear ho0); obtain ⟨i054, hi054, _, hsz54, _⟩ := info_parts info9; obtain ⟨hcut54, hA54, hC54⟩ := print_take_of (P := Try.prog) Value.string (⟨#[]⟩ : ByteArray) 27 9 .i64 Try.underlying27 hi054 hsz54 A0 c0 l0 x12_3 (of_decide_eq_true (by first | (with_reducible assumption) | assumption)) (of_decide_eq_true (by first | (with_reducible assumption) | assumption)) HC0.out; have HR272 := Aside0.mk (Kd.C_of_reads (h1 := fun _ => rfl) (hA54 _ (Kd.reads_of_C HR0.out))); have HC272 := Aside0.mk hC54; clear hA54 hC54 hi054 hsz54; obtain ⟨Ao55, co55, eo55⟩ := Kd.R_slice HO271.out; subst eo55) | ((with_reducible refine gate_callee (f := 19) rfl ?_); refine goesL_ (some 83) rfl rfl Try.func19 (by kernel_rfl) rfl #[.slice Ao55 t268.length co55, .slice A0 (l0.take (x12_3 : Int).toNat).length c0] rfl (by (try simp only [List.map_toArray, List.map_cons, List.map_nil]); first | done | (rw [show (l0.take (x12_3 : Int).toNat).length = x12_3.toNat from (by rw [List.length_take]; have h_ : (x12_3 : Int) ≤ (l0.length : Int) := of_decide_eq_true (by first | (with_reducible assumption) | assumption); omega)] <;> rfl) | rfl | (simp only [List.length_drop, List.length_take]; rfl) | (simp only [decide_eq_true_eq, decide_eq_false_iff_not] at *; congr <;> (first | rfl | (refine (congrArg (Value.int .i64) ?_ : Value.int .i64 _ = Value.int .i64 _); unfold wrap64; omega) | fail)) | fail) ?_; (with_reducible refine (ancepsref56_Same.calls k3 _ _ t268 _ _ (l0.take (x12_3 : Int).toNat) true _ ?side1 ?side2 ?side3 ?side4 A33.out).mono ?_); (case side1 => repeat (first | exact (Kd.R_reads' HO271.out).2.2 | (with_reducible refine Kd.C_alloc ?_ _) | (with_reducible refine Kd.C_drewN ?_ _) | (with_reducible refine Kd.C_drew ?_))); (case side2 => exact (Kd.R_reads' HO271.out).2.1); (case side3 => repeat (first | exact (Kd.C_below HR272.out HB.out) | (with_reducible refine Kd.C_alloc ?_ _) | (with_reducible refine Kd.C_drewN ?_ _) | (with_reducible refine Kd.C_drew ?_))); (case side4 => exact HC272.out); rintro e w' ⟨rfl, ⟨nd, rfl⟩⟩; refine ⟨_, rfl, ?_⟩))
                                      go_ret
                                      exact ⟨by first | rfl | (simp [errW_none, errW_some] <;> rfl) | (simp [*, errW_none, errW_some] <;> rfl), by repeat (first | (with_reducible first | exact HB.out | apply below_alloc | apply pw_below_drewN | apply below_drew1) | exact HB.out)⟩
                                · rw [if_neg c35] at H
                                  have c35b0 : (x12_3 == 0) = false := beq_eq_false_iff_ne.mpr c35
                                  have c35b1 : (x12_3 != 0) = true := bne_iff_ne.mpr c35
                                  by_cases c56 : x12_3 > 0
                                  · rw [if_pos c56] at H
                                    have c56b0 : decide (0 < x12_3) = true := decide_eq_true c56
                                    clear c56
                                    obtain ⟨ji57, hji57⟩ : ∃ j_ : Int, (wrap64 (x12_3 - 1)) = j_ := ⟨_, rfl⟩
                                    replace H : (if 0 ≤ (ji57) then (if (ji57) < (x6_2.length : Int) then (some (t269 == (rd x6_2 (ji57)))) else (none)) else (none)) = some r := by first | (rw [hji57] at H; exact H) | (simp only [hji57] at H ⊢; exact H)
                                    (try rw [hji57] at A29)
                                    (try rw [hji57] at A30)
                                    (try rw [hji57] at A33)
                                    have hji57w : (IntKind.i64.wrap (x12_3 - 1)) = ji57 := (i64_w _).trans hji57
                                    by_cases c58 : 0 ≤ (ji57)
                                    · rw [if_pos c58] at H
                                      have c58b0 : decide (0 ≤ (ji57)) = true := decide_eq_true c58
                                      clear c58
                                      by_cases c59 : (ji57) < (x6_2.length : Int)
                                      · rw [if_pos c59] at H
                                        have c59b0 : decide ((ji57) < (x6_2.length : Int)) = true := decide_eq_true c59
                                        clear c59
                                        obtain rfl := Option.some.inj H
                                        obtain ⟨Ao60, co60, eo60⟩ := Kd.R_slice HO_6.out
                                        subst eo60
                                        have p266 : 0 ≤ (x12_3 : Int) := of_decide_eq_true (by first | (with_reducible assumption) | assumption)
                                        have q266 : x12_3 < (x6_2.length : Int) := of_decide_eq_true (by first | (with_reducible assumption) | assumption)
                                        obtain ⟨ad266, e266, hx266_0⟩ := Kd.at_int (Kd.R_reads' HO_6.out).2.2 x12_3 p266 q266
                                        cases e266
                                        replace p266 := eq_true p266
                                        replace q266 := eq_true q266
                                        go_wp2_with (first | ((with_reducible refine gate_callee (f := 29) rfl ?_); refine goesL_ (some 75) rfl rfl Try.func29 (by kernel_rfl) rfl #[.string x5_2, .int .i64 (Int.tmod (wrap64 (a1)) (wrap64 (8 * (x5_2.size : Int))))] rfl (by (try simp only [List.map_toArray, List.map_cons, List.map_nil]); first | done | rfl | (simp only [List.length_drop, List.length_take]; rfl) | (simp only [decide_eq_true_eq, decide_eq_false_iff_not] at *; congr <;> (first | rfl | (refine (congrArg (Value.int .i64) ?_ : Value.int .i64 _ = Value.int .i64 _); unfold wrap64; omega) | fail)) | fail) ?_; (with_reducible refine (ancepsref56_Turned.calls x5_2 (Int.tmod (wrap64 (a1)) (wrap64 (8 * (x5_2.size : Int)))) t267 _ A29.out).mono ?_); rintro e w61 ⟨rfl, hb⟩; refine ⟨_, rfl, ?_⟩; have n0_ := Aside0.mk (Kd.R_below (by (with_reducible repeat (first | apply Kd.R_alloc | apply Kd.R_drewN | apply Kd.R_drew)); exact HO_6.out) hb); have n1_ := Aside0.mk (below_step (by repeat (first | (with_reducible first | exact HB.out | apply below_alloc | apply pw_below_drewN | apply below_drew1) | exact HB.out)) hb); clear HO_6; clear HB; have HO_6 := n0_; have HB := n1_; clear n0_ n1_; (try clear hb); (try clear hb2); (try clear hk); (try clear hi)) | ((with_reducible refine gate_callee (f := 16) rfl ?_); refine goesL_ (some 76) rfl rfl Try.func16 (by kernel_rfl) rfl #[.string t267] rfl (by (try simp only [List.map_toArray, List.map_cons, List.map_nil]); first | done | rfl | (simp only [List.length_drop, List.length_take]; rfl) | (simp only [decide_eq_true_eq, decide_eq_false_iff_not] at *; congr <;> (first | rfl | (refine (congrArg (Value.int .i64) ?_ : Value.int .i64 _ = Value.int .i64 _); unfold wrap64; omega) | fail)) | fail) ?_; (with_reducible refine (journal_Frames.calls k3 t267 t268 t269 _ A30.out).mono ?_); rintro e w62 ⟨v270, rfl, ho0, hb⟩; refine ⟨_, rfl, ?_⟩; have n0_ := Aside0.mk (Kd.R_below (by (with_reducible repeat (first | apply Kd.R_alloc | apply Kd.R_drewN | apply Kd.R_drew)); exact HO_6.out) hb); have n1_ := Aside0.mk (Kd.R_lower ho0 (below_size (by repeat (first | (with_reducible first | exact HB.out | apply below_alloc | apply pw_below_drewN | apply below_drew1) | exact HB.out)))); have n2_ := Aside0.mk (below_step (by repeat (first | (with_reducible first | exact HB.out | apply below_alloc | apply pw_below_drewN | apply below_drew1) | exact HB.out)) hb); clear HO_6; clear HB; have HO_6 := n0_; have HO271 := n1_; have HB := n2_; clear n0_ n1_ n2_; (try clear hb); (try clear hb2); (try clear hk); (try clear hi); (try clear ho0); obtain ⟨i063, hi063, _, hsz63, _⟩ := info_parts info9; obtain ⟨hcut63, hA63, hC63⟩ := print_take_of (P := Try.prog) Value.string (⟨#[]⟩ : ByteArray) 27 9 .i64 Try.underlying27 hi063 hsz63 A0 c0 l0 x12_3 (of_decide_eq_true (by first | (with_reducible assumption) | assumption)) (of_decide_eq_true (by first | (with_reducible assumption) | assumption)) HC0.out; have HR272 := Aside0.mk (Kd.C_of_reads (h1 := fun _ => rfl) (hA63 _ (Kd.reads_of_C HR0.out))); have HC272 := Aside0.mk hC63; clear hA63 hC63 hi063 hsz63; obtain ⟨Ao64, co64, eo64⟩ := Kd.R_slice HO271.out; subst eo64) | ((with_reducible refine gate_callee (f := 19) rfl ?_); refine goesL_ (some 83) rfl rfl Try.func19 (by kernel_rfl) rfl #[.slice Ao64 t268.length co64, .slice A0 (l0.take (x12_3 : Int).toNat).length c0] rfl (by (try simp only [List.map_toArray, List.map_cons, List.map_nil]); first | done | (rw [show (l0.take (x12_3 : Int).toNat).length = x12_3.toNat from (by rw [List.length_take]; have h_ : (x12_3 : Int) ≤ (l0.length : Int) := of_decide_eq_true (by first | (with_reducible assumption) | assumption); omega)] <;> rfl) | rfl | (simp only [List.length_drop, List.length_take]; rfl) | (simp only [decide_eq_true_eq, decide_eq_false_iff_not] at *; congr <;> (first | rfl | (refine (congrArg (Value.int .i64) ?_ : Value.int .i64 _ = Value.int .i64 _); unfold wrap64; omega) | fail)) | fail) ?_; (with_reducible refine (ancepsref56_Same.calls k3 _ _ t268 _ _ (l0.take (x12_3 : Int).toNat) true _ ?side1 ?side2 ?side3 ?side4 A33.out).mono ?_); (case side1 => repeat (first | exact (Kd.R_reads' HO271.out).2.2 | (with_reducible refine Kd.C_alloc ?_ _) | (with_reducible refine Kd.C_drewN ?_ _) | (with_reducible refine Kd.C_drew ?_))); (case side2 => exact (Kd.R_reads' HO271.out).2.1); (case side3 => repeat (first | exact (Kd.C_below HR272.out HB.out) | (with_reducible refine Kd.C_alloc ?_ _) | (with_reducible refine Kd.C_drewN ?_ _) | (with_reducible refine Kd.C_drew ?_))); (case side4 => exact HC272.out); rintro e w' ⟨rfl, ⟨nd, rfl⟩⟩; refine ⟨_, rfl, ?_⟩; have p275 : 0 ≤ ((ji57) : Int) := of_decide_eq_true (by first | (with_reducible assumption) | assumption); have q275 : (ji57) < (x6_2.length : Int) := of_decide_eq_true (by first | (with_reducible assumption) | assumption); obtain ⟨ad275, e275, hx275_0⟩ := Kd.at_int (Kd.R_reads' HO_6.out).2.2 (ji57) p275 q275; obtain rfl : ad266 = ad275 := (by injection e275); replace p275 := eq_true p275; replace q275 := eq_true q275))
                                        go_ret
                                        exact ⟨by first | rfl | (simp [errW_none, errW_some] <;> rfl) | (simp only [← hji57]; first | rfl | (simp [errW_none, errW_some] <;> rfl)) | (simp [*, errW_none, errW_some] <;> rfl), by repeat (first | (with_reducible first | exact HB.out | apply below_alloc | apply pw_below_drewN | apply below_drew1) | exact HB.out)⟩
                                      · rw [if_neg c59] at H
                                        exact absurd H (by simp)
                                    · rw [if_neg c58] at H
                                      exact absurd H (by simp)
                                  · rw [if_neg c56] at H
                                    have c56b0 : decide (0 < x12_3) = false := decide_eq_false c56
                                    clear c56
                                    obtain rfl := Option.some.inj H
                                    obtain ⟨Ao65, co65, eo65⟩ := Kd.R_slice HO_6.out
                                    subst eo65
                                    have p266 : 0 ≤ (x12_3 : Int) := of_decide_eq_true (by first | (with_reducible assumption) | assumption)
                                    have q266 : x12_3 < (x6_2.length : Int) := of_decide_eq_true (by first | (with_reducible assumption) | assumption)
                                    obtain ⟨ad266, e266, hx266_0⟩ := Kd.at_int (Kd.R_reads' HO_6.out).2.2 x12_3 p266 q266
                                    cases e266
                                    replace p266 := eq_true p266
                                    replace q266 := eq_true q266
                                    go_wp2_with (first | ((with_reducible refine gate_callee (f := 29) rfl ?_); refine goesL_ (some 75) rfl rfl Try.func29 (by kernel_rfl) rfl #[.string x5_2, .int .i64 (Int.tmod (wrap64 (a1)) (wrap64 (8 * (x5_2.size : Int))))] rfl (by (try simp only [List.map_toArray, List.map_cons, List.map_nil]); first | done | rfl | (simp only [List.length_drop, List.length_take]; rfl) | (simp only [decide_eq_true_eq, decide_eq_false_iff_not] at *; congr <;> (first | rfl | (refine (congrArg (Value.int .i64) ?_ : Value.int .i64 _ = Value.int .i64 _); unfold wrap64; omega) | fail)) | fail) ?_; (with_reducible refine (ancepsref56_Turned.calls x5_2 (Int.tmod (wrap64 (a1)) (wrap64 (8 * (x5_2.size : Int)))) t267 _ A29.out).mono ?_); rintro e w66 ⟨rfl, hb⟩; refine ⟨_, rfl, ?_⟩; have n0_ := Aside0.mk (Kd.R_below (by (with_reducible repeat (first | apply Kd.R_alloc | apply Kd.R_drewN | apply Kd.R_drew)); exact HO_6.out) hb); have n1_ := Aside0.mk (below_step (by repeat (first | (with_reducible first | exact HB.out | apply below_alloc | apply pw_below_drewN | apply below_drew1) | exact HB.out)) hb); clear HO_6; clear HB; have HO_6 := n0_; have HB := n1_; clear n0_ n1_; (try clear hb); (try clear hb2); (try clear hk); (try clear hi)) | ((with_reducible refine gate_callee (f := 16) rfl ?_); refine goesL_ (some 76) rfl rfl Try.func16 (by kernel_rfl) rfl #[.string t267] rfl (by (try simp only [List.map_toArray, List.map_cons, List.map_nil]); first | done | rfl | (simp only [List.length_drop, List.length_take]; rfl) | (simp only [decide_eq_true_eq, decide_eq_false_iff_not] at *; congr <;> (first | rfl | (refine (congrArg (Value.int .i64) ?_ : Value.int .i64 _ = Value.int .i64 _); unfold wrap64; omega) | fail)) | fail) ?_; (with_reducible refine (journal_Frames.calls k3 t267 t268 t269 _ A30.out).mono ?_); rintro e w67 ⟨v270, rfl, ho0, hb⟩; refine ⟨_, rfl, ?_⟩; have n0_ := Aside0.mk (Kd.R_below (by (with_reducible repeat (first | apply Kd.R_alloc | apply Kd.R_drewN | apply Kd.R_drew)); exact HO_6.out) hb); have n1_ := Aside0.mk (Kd.R_lower ho0 (below_size (by repeat (first | (with_reducible first | exact HB.out | apply below_alloc | apply pw_below_drewN | apply below_drew1) | exact HB.out)))); have n2_ := Aside0.mk (below_step (by repeat (first | (with_reducible first | exact HB.out | apply below_alloc | apply pw_below_drewN | apply below_drew1) | exact HB.out)) hb); clear HO_6; clear HB; have HO_6 := n0_; have HO271 := n1_; have HB := n2_; clear n0_ n1_ n2_; (try clear hb); (try clear hb2); (try clear hk); (try clear hi); (try clear ho0); obtain ⟨i068, hi068, _, hsz68, _⟩ := info_parts info9; obtain ⟨hcut68, hA68, hC68⟩ := print_take_of (P := Try.prog) Value.string (⟨#[]⟩ : ByteArray) 27 9 .i64 Try.underlying27 hi068 hsz68 A0 c0 l0 x12_3 (of_decide_eq_true (by first | (with_reducible assumption) | assumption)) (of_decide_eq_true (by first | (with_reducible assumption) | assumption)) HC0.out; have HR272 := Aside0.mk (Kd.C_of_reads (h1 := fun _ => rfl) (hA68 _ (Kd.reads_of_C HR0.out))); have HC272 := Aside0.mk hC68; clear hA68 hC68 hi068 hsz68; obtain ⟨Ao69, co69, eo69⟩ := Kd.R_slice HO271.out; subst eo69) | ((with_reducible refine gate_callee (f := 19) rfl ?_); refine goesL_ (some 83) rfl rfl Try.func19 (by kernel_rfl) rfl #[.slice Ao69 t268.length co69, .slice A0 (l0.take (x12_3 : Int).toNat).length c0] rfl (by (try simp only [List.map_toArray, List.map_cons, List.map_nil]); first | done | (rw [show (l0.take (x12_3 : Int).toNat).length = x12_3.toNat from (by rw [List.length_take]; have h_ : (x12_3 : Int) ≤ (l0.length : Int) := of_decide_eq_true (by first | (with_reducible assumption) | assumption); omega)] <;> rfl) | rfl | (simp only [List.length_drop, List.length_take]; rfl) | (simp only [decide_eq_true_eq, decide_eq_false_iff_not] at *; congr <;> (first | rfl | (refine (congrArg (Value.int .i64) ?_ : Value.int .i64 _ = Value.int .i64 _); unfold wrap64; omega) | fail)) | fail) ?_; (with_reducible refine (ancepsref56_Same.calls k3 _ _ t268 _ _ (l0.take (x12_3 : Int).toNat) true _ ?side1 ?side2 ?side3 ?side4 A33.out).mono ?_); (case side1 => repeat (first | exact (Kd.R_reads' HO271.out).2.2 | (with_reducible refine Kd.C_alloc ?_ _) | (with_reducible refine Kd.C_drewN ?_ _) | (with_reducible refine Kd.C_drew ?_))); (case side2 => exact (Kd.R_reads' HO271.out).2.1); (case side3 => repeat (first | exact (Kd.C_below HR272.out HB.out) | (with_reducible refine Kd.C_alloc ?_ _) | (with_reducible refine Kd.C_drewN ?_ _) | (with_reducible refine Kd.C_drew ?_))); (case side4 => exact HC272.out); rintro e w' ⟨rfl, ⟨nd, rfl⟩⟩; refine ⟨_, rfl, ?_⟩))
                                    go_ret
                                    exact ⟨by first | rfl | (simp [errW_none, errW_some] <;> rfl) | (simp [*, errW_none, errW_some] <;> rfl), by repeat (first | (with_reducible first | exact HB.out | apply below_alloc | apply pw_below_drewN | apply below_drew1) | exact HB.out)⟩
                              · replace c34 := Bool.eq_false_iff.mpr c34
                                subst c34
                                have H1 : (some false) = some r := by rw [if_neg (show ¬ (false = true) by decide)] at H; exact H
                                clear H
                                have H := H1
                                clear H1
                                obtain rfl := Option.some.inj H
                                obtain ⟨Ao70, co70, eo70⟩ := Kd.R_slice HO_6.out
                                subst eo70
                                have p266 : 0 ≤ (x12_3 : Int) := of_decide_eq_true (by first | (with_reducible assumption) | assumption)
                                have q266 : x12_3 < (x6_2.length : Int) := of_decide_eq_true (by first | (with_reducible assumption) | assumption)
                                obtain ⟨ad266, e266, hx266_0⟩ := Kd.at_int (Kd.R_reads' HO_6.out).2.2 x12_3 p266 q266
                                cases e266
                                replace p266 := eq_true p266
                                replace q266 := eq_true q266
                                go_wp2_with (first | ((with_reducible refine gate_callee (f := 29) rfl ?_); refine goesL_ (some 75) rfl rfl Try.func29 (by kernel_rfl) rfl #[.string x5_2, .int .i64 (Int.tmod (wrap64 (a1)) (wrap64 (8 * (x5_2.size : Int))))] rfl (by (try simp only [List.map_toArray, List.map_cons, List.map_nil]); first | done | rfl | (simp only [List.length_drop, List.length_take]; rfl) | (simp only [decide_eq_true_eq, decide_eq_false_iff_not] at *; congr <;> (first | rfl | (refine (congrArg (Value.int .i64) ?_ : Value.int .i64 _ = Value.int .i64 _); unfold wrap64; omega) | fail)) | fail) ?_; (with_reducible refine (ancepsref56_Turned.calls x5_2 (Int.tmod (wrap64 (a1)) (wrap64 (8 * (x5_2.size : Int)))) t267 _ A29.out).mono ?_); rintro e w71 ⟨rfl, hb⟩; refine ⟨_, rfl, ?_⟩; have n0_ := Aside0.mk (Kd.R_below (by (with_reducible repeat (first | apply Kd.R_alloc | apply Kd.R_drewN | apply Kd.R_drew)); exact HO_6.out) hb); have n1_ := Aside0.mk (below_step (by repeat (first | (with_reducible first | exact HB.out | apply below_alloc | apply pw_below_drewN | apply below_drew1) | exact HB.out)) hb); clear HO_6; clear HB; have HO_6 := n0_; have HB := n1_; clear n0_ n1_; (try clear hb); (try clear hb2); (try clear hk); (try clear hi)) | ((with_reducible refine gate_callee (f := 16) rfl ?_); refine goesL_ (some 76) rfl rfl Try.func16 (by kernel_rfl) rfl #[.string t267] rfl (by (try simp only [List.map_toArray, List.map_cons, List.map_nil]); first | done | rfl | (simp only [List.length_drop, List.length_take]; rfl) | (simp only [decide_eq_true_eq, decide_eq_false_iff_not] at *; congr <;> (first | rfl | (refine (congrArg (Value.int .i64) ?_ : Value.int .i64 _ = Value.int .i64 _); unfold wrap64; omega) | fail)) | fail) ?_; (with_reducible refine (journal_Frames.calls k3 t267 t268 t269 _ A30.out).mono ?_); rintro e w72 ⟨v270, rfl, ho0, hb⟩; refine ⟨_, rfl, ?_⟩; have n0_ := Aside0.mk (Kd.R_below (by (with_reducible repeat (first | apply Kd.R_alloc | apply Kd.R_drewN | apply Kd.R_drew)); exact HO_6.out) hb); have n1_ := Aside0.mk (Kd.R_lower ho0 (below_size (by repeat (first | (with_reducible first | exact HB.out | apply below_alloc | apply pw_below_drewN | apply below_drew1) | exact HB.out)))); have n2_ := Aside0.mk (below_step (by repeat (first | (with_reducible first | exact HB.out | apply below_alloc | apply pw_below_drewN | apply below_drew1) | exact HB.out)) hb); clear HO_6; clear HB; have HO_6 := n0_; have HO271 := n1_; have HB := n2_; clear n0_ n1_ n2_; (try clear hb); (try clear hb2); (try clear hk); (try clear hi); (try clear ho0); obtain ⟨i073, hi073, _, hsz73, _⟩ := info_parts info9; obtain ⟨hcut73, hA73, hC73⟩ := print_take_of (P := Try.prog) Value.string (⟨#[]⟩ : ByteArray) 27 9 .i64 Try.underlying27 hi073 hsz73 A0 c0 l0 x12_3 (of_decide_eq_true (by first | (with_reducible assumption) | assumption)) (of_decide_eq_true (by first | (with_reducible assumption) | assumption)) HC0.out; have HR272 := Aside0.mk (Kd.C_of_reads (h1 := fun _ => rfl) (hA73 _ (Kd.reads_of_C HR0.out))); have HC272 := Aside0.mk hC73; clear hA73 hC73 hi073 hsz73; obtain ⟨Ao74, co74, eo74⟩ := Kd.R_slice HO271.out; subst eo74) | ((with_reducible refine gate_callee (f := 19) rfl ?_); refine goesL_ (some 83) rfl rfl Try.func19 (by kernel_rfl) rfl #[.slice Ao74 t268.length co74, .slice A0 (l0.take (x12_3 : Int).toNat).length c0] rfl (by (try simp only [List.map_toArray, List.map_cons, List.map_nil]); first | done | (rw [show (l0.take (x12_3 : Int).toNat).length = x12_3.toNat from (by rw [List.length_take]; have h_ : (x12_3 : Int) ≤ (l0.length : Int) := of_decide_eq_true (by first | (with_reducible assumption) | assumption); omega)] <;> rfl) | rfl | (simp only [List.length_drop, List.length_take]; rfl) | (simp only [decide_eq_true_eq, decide_eq_false_iff_not] at *; congr <;> (first | rfl | (refine (congrArg (Value.int .i64) ?_ : Value.int .i64 _ = Value.int .i64 _); unfold wrap64; omega) | fail)) | fail) ?_; (with_reducible refine (ancepsref56_Same.calls k3 _ _ t268 _ _ (l0.take (x12_3 : Int).toNat) false _ ?side1 ?side2 ?side3 ?side4 A33.out).mono ?_); (case side1 => repeat (first | exact (Kd.R_reads' HO271.out).2.2 | (with_reducible refine Kd.C_alloc ?_ _) | (with_reducible refine Kd.C_drewN ?_ _) | (with_reducible refine Kd.C_drew ?_))); (case side2 => exact (Kd.R_reads' HO271.out).2.1); (case side3 => repeat (first | exact (Kd.C_below HR272.out HB.out) | (with_reducible refine Kd.C_alloc ?_ _) | (with_reducible refine Kd.C_drewN ?_ _) | (with_reducible refine Kd.C_drew ?_))); (case side4 => exact HC272.out); rintro e w' ⟨rfl, ⟨nd, rfl⟩⟩; refine ⟨_, rfl, ?_⟩))
                                go_ret
                                exact ⟨by first | rfl | (simp [errW_none, errW_some] <;> rfl) | (simp [*, errW_none, errW_some] <;> rfl), by repeat (first | (with_reducible first | exact HB.out | apply below_alloc | apply pw_below_drewN | apply below_drew1) | exact HB.out)⟩
                            · rw [if_neg c32] at H
                              exact absurd H (by simp)
                        · rw [if_neg c26] at H
                          exact absurd H (by simp)
                      · rw [if_neg c25] at H
                        have c25b0 : decide (x12_3 < (x6_2.length : Int)) = false := decide_eq_false c25
                        clear c25
                        replace H := Option.bind_eq_some_iff.mp H
                        obtain ⟨t276, A750, H⟩ := H
                        replace H : ((journal_Frames.f k3 t276).bind fun bt277 => (if 0 ≤ x12_3 then (if x12_3 ≤ (l0.length : Int) then ((ancepsref56_Same.f k3 bt277.1 (l0.take (x12_3 : Int).toNat)).bind fun t282 => (if t282 = true then (if x12_3 = 0 then (if bt277.2 = 0 then (some true) else (if x12_3 > 0 then (if 0 ≤ (wrap64 (x12_3 - 1)) then (if (wrap64 (x12_3 - 1)) < (x6_2.length : Int) then (some (bt277.2 == (rd x6_2 (wrap64 (x12_3 - 1))))) else (none)) else (none)) else (some false))) else (if x12_3 > 0 then (if 0 ≤ (wrap64 (x12_3 - 1)) then (if (wrap64 (x12_3 - 1)) < (x6_2.length : Int) then (some (bt277.2 == (rd x6_2 (wrap64 (x12_3 - 1))))) else (none)) else (none)) else (some false))) else (some false))) else (none)) else (none))) = some r := H
                        have A75 := Aside0.mk A750
                        clear A750
                        replace H := Option.bind_eq_some_iff.mp H
                        obtain ⟨⟨t277, t278⟩, A760, H⟩ := H
                        replace H : (if 0 ≤ x12_3 then (if x12_3 ≤ (l0.length : Int) then ((ancepsref56_Same.f k3 t277 (l0.take (x12_3 : Int).toNat)).bind fun t282 => (if t282 = true then (if x12_3 = 0 then (if t278 = 0 then (some true) else (if x12_3 > 0 then (if 0 ≤ (wrap64 (x12_3 - 1)) then (if (wrap64 (x12_3 - 1)) < (x6_2.length : Int) then (some (t278 == (rd x6_2 (wrap64 (x12_3 - 1))))) else (none)) else (none)) else (some false))) else (if x12_3 > 0 then (if 0 ≤ (wrap64 (x12_3 - 1)) then (if (wrap64 (x12_3 - 1)) < (x6_2.length : Int) then (some (t278 == (rd x6_2 (wrap64 (x12_3 - 1))))) else (none)) else (none)) else (some false))) else (some false))) else (none)) else (none)) = some r := H
                        have A76 := Aside0.mk A760
                        clear A760
                        by_cases c77 : 0 ≤ x12_3
                        · rw [if_pos c77] at H
                          have c77b0 := eq_true c77
                          have c77b1 : decide (0 ≤ x12_3) = true := decide_eq_true c77
                          clear c77
                          by_cases c78 : x12_3 ≤ (l0.length : Int)
                          · rw [if_pos c78] at H
                            have c78b0 := eq_true c78
                            have c78b1 : decide (x12_3 ≤ (l0.length : Int)) = true := decide_eq_true c78
                            clear c78
                            replace H := Option.bind_eq_some_iff.mp H
                            obtain ⟨t282, A790, H⟩ := H
                            replace H : (if t282 = true then (if x12_3 = 0 then (if t278 = 0 then (some true) else (if x12_3 > 0 then (if 0 ≤ (wrap64 (x12_3 - 1)) then (if (wrap64 (x12_3 - 1)) < (x6_2.length : Int) then (some (t278 == (rd x6_2 (wrap64 (x12_3 - 1))))) else (none)) else (none)) else (some false))) else (if x12_3 > 0 then (if 0 ≤ (wrap64 (x12_3 - 1)) then (if (wrap64 (x12_3 - 1)) < (x6_2.length : Int) then (some (t278 == (rd x6_2 (wrap64 (x12_3 - 1))))) else (none)) else (none)) else (some false))) else (some false)) = some r := H
                            have A79 := Aside0.mk A790
                            clear A790
                            by_cases c80 : t282 = true
                            · subst c80
                              have H1 : (if x12_3 = 0 then (if t278 = 0 then (some true) else (if x12_3 > 0 then (if 0 ≤ (wrap64 (x12_3 - 1)) then (if (wrap64 (x12_3 - 1)) < (x6_2.length : Int) then (some (t278 == (rd x6_2 (wrap64 (x12_3 - 1))))) else (none)) else (none)) else (some false))) else (if x12_3 > 0 then (if 0 ≤ (wrap64 (x12_3 - 1)) then (if (wrap64 (x12_3 - 1)) < (x6_2.length : Int) then (some (t278 == (rd x6_2 (wrap64 (x12_3 - 1))))) else (none)) else (none)) else (some false))) = some r := by rw [if_pos rfl] at H; exact H
                              clear H
                              have H := H1
                              clear H1
                              by_cases c81 : x12_3 = 0
                              · rw [if_pos c81] at H
                                have c81b0 : (x12_3 == 0) = true := beq_iff_eq.mpr c81
                                have c81b1 : (x12_3 != 0) = false := bne_eq_false_iff_eq.mpr c81
                                clear c81
                                by_cases c82 : t278 = 0
                                · rw [if_pos c82] at H
                                  have c82b0 : (t278 == 0) = true := beq_iff_eq.mpr c82
                                  have c82b1 : (t278 != 0) = false := bne_eq_false_iff_eq.mpr c82
                                  clear c82
                                  obtain rfl := Option.some.inj H
                                  obtain ⟨Ao83, co83, eo83⟩ := Kd.R_slice HO_6.out
                                  subst eo83
                                  go_wp2_with (first | ((with_reducible refine gate_callee (f := 29) rfl ?_); refine goesL_ (some 75) rfl rfl Try.func29 (by kernel_rfl) rfl #[.string x5_2, .int .i64 (Int.tmod (wrap64 (a1)) (wrap64 (8 * (x5_2.size : Int))))] rfl (by (try simp only [List.map_toArray, List.map_cons, List.map_nil]); first | done | rfl | (simp only [List.length_drop, List.length_take]; rfl) | (simp only [decide_eq_true_eq, decide_eq_false_iff_not] at *; congr <;> (first | rfl | (refine (congrArg (Value.int .i64) ?_ : Value.int .i64 _ = Value.int .i64 _); unfold wrap64; omega) | fail)) | fail) ?_; (with_reducible refine (ancepsref56_Turned.calls x5_2 (Int.tmod (wrap64 (a1)) (wrap64 (8 * (x5_2.size : Int)))) t276 _ A75.out).mono ?_); rintro e w84 ⟨rfl, hb⟩; refine ⟨_, rfl, ?_⟩; have n0_ := Aside0.mk (Kd.R_below (by (with_reducible repeat (first | apply Kd.R_alloc | apply Kd.R_drewN | apply Kd.R_drew)); exact HO_6.out) hb); have n1_ := Aside0.mk (below_step (by repeat (first | (with_reducible first | exact HB.out | apply below_alloc | apply pw_below_drewN | apply below_drew1) | exact HB.out)) hb); clear HO_6; clear HB; have HO_6 := n0_; have HB := n1_; clear n0_ n1_; (try clear hb); (try clear hb2); (try clear hk); (try clear hi)) | ((with_reducible refine gate_callee (f := 16) rfl ?_); refine goesL_ (some 76) rfl rfl Try.func16 (by kernel_rfl) rfl #[.string t276] rfl (by (try simp only [List.map_toArray, List.map_cons, List.map_nil]); first | done | rfl | (simp only [List.length_drop, List.length_take]; rfl) | (simp only [decide_eq_true_eq, decide_eq_false_iff_not] at *; congr <;> (first | rfl | (refine (congrArg (Value.int .i64) ?_ : Value.int .i64 _ = Value.int .i64 _); unfold wrap64; omega) | fail)) | fail) ?_; (with_reducible refine (journal_Frames.calls k3 t276 t277 t278 _ A76.out).mono ?_); rintro e w85 ⟨v279, rfl, ho0, hb⟩; refine ⟨_, rfl, ?_⟩; have n0_ := Aside0.mk (Kd.R_below (by (with_reducible repeat (first | apply Kd.R_alloc | apply Kd.R_drewN | apply Kd.R_drew)); exact HO_6.out) hb); have n1_ := Aside0.mk (Kd.R_lower ho0 (below_size (by repeat (first | (with_reducible first | exact HB.out | apply below_alloc | apply pw_below_drewN | apply below_drew1) | exact HB.out)))); have n2_ := Aside0.mk (below_step (by repeat (first | (with_reducible first | exact HB.out | apply below_alloc | apply pw_below_drewN | apply below_drew1) | exact HB.out)) hb); clear HO_6; clear HB; have HO_6 := n0_; have HO280 := n1_; have HB := n2_; clear n0_ n1_ n2_; (try clear hb); (try clear hb2); (try clear hk); (try clear hi); (try clear ho0); obtain ⟨i086, hi086, _, hsz86, _⟩ := info_parts info9; obtain ⟨hcut86, hA86, hC86⟩ := print_take_of (P := Try.prog) Value.string (⟨#[]⟩ : ByteArray) 27 9 .i64 Try.underlying27 hi086 hsz86 A0 c0 l0 x12_3 (of_decide_eq_true (by first | (with_reducible assumption) | assumption)) (of_decide_eq_true (by first | (with_reducible assumption) | assumption)) HC0.out; have HR281 := Aside0.mk (Kd.C_of_reads (h1 := fun _ => rfl) (hA86 _ (Kd.reads_of_C HR0.out))); have HC281 := Aside0.mk hC86; clear hA86 hC86 hi086 hsz86; obtain ⟨Ao87, co87, eo87⟩ := Kd.R_slice HO280.out; subst eo87) | ((with_reducible refine gate_callee (f := 19) rfl ?_); refine goesL_ (some 83) rfl rfl Try.func19 (by kernel_rfl) rfl #[.slice Ao87 t277.length co87, .slice A0 (l0.take (x12_3 : Int).toNat).length c0] rfl (by (try simp only [List.map_toArray, List.map_cons, List.map_nil]); first | done | (rw [show (l0.take (x12_3 : Int).toNat).length = x12_3.toNat from (by rw [List.length_take]; have h_ : (x12_3 : Int) ≤ (l0.length : Int) := of_decide_eq_true (by first | (with_reducible assumption) | assumption); omega)] <;> rfl) | rfl | (simp only [List.length_drop, List.length_take]; rfl) | (simp only [decide_eq_true_eq, decide_eq_false_iff_not] at *; congr <;> (first | rfl | (refine (congrArg (Value.int .i64) ?_ : Value.int .i64 _ = Value.int .i64 _); unfold wrap64; omega) | fail)) | fail) ?_; (with_reducible refine (ancepsref56_Same.calls k3 _ _ t277 _ _ (l0.take (x12_3 : Int).toNat) true _ ?side1 ?side2 ?side3 ?side4 A79.out).mono ?_); (case side1 => repeat (first | exact (Kd.R_reads' HO280.out).2.2 | (with_reducible refine Kd.C_alloc ?_ _) | (with_reducible refine Kd.C_drewN ?_ _) | (with_reducible refine Kd.C_drew ?_))); (case side2 => exact (Kd.R_reads' HO280.out).2.1); (case side3 => repeat (first | exact (Kd.C_below HR281.out HB.out) | (with_reducible refine Kd.C_alloc ?_ _) | (with_reducible refine Kd.C_drewN ?_ _) | (with_reducible refine Kd.C_drew ?_))); (case side4 => exact HC281.out); rintro e w' ⟨rfl, ⟨nd, rfl⟩⟩; refine ⟨_, rfl, ?_⟩))
                                  go_ret
                                  exact ⟨by first | rfl | (simp [errW_none, errW_some] <;> rfl) | (simp [*, errW_none, errW_some] <;> rfl), by repeat (first | (with_reducible first | exact HB.out | apply below_alloc | apply pw_below_drewN | apply below_drew1) | exact HB.out)⟩
                                · rw [if_neg c82] at H
                                  have c82b0 : (t278 == 0) = false := beq_eq_false_iff_ne.mpr c82
                                  have c82b1 : (t278 != 0) = true := bne_iff_ne.mpr c82
                                  by_cases c88 : x12_3 > 0
                                  · rw [if_pos c88] at H
                                    have c88b0 : decide (0 < x12_3) = true := decide_eq_true c88
                                    clear c88
                                    obtain ⟨ji89, hji89⟩ : ∃ j_ : Int, (wrap64 (x12_3 - 1)) = j_ := ⟨_, rfl⟩
                                    replace H : (if 0 ≤ (ji89) then (if (ji89) < (x6_2.length : Int) then (some (t278 == (rd x6_2 (ji89)))) else (none)) else (none)) = some r := by first | (rw [hji89] at H; exact H) | (simp only [hji89] at H ⊢; exact H)
                                    (try rw [hji89] at A75)
                                    (try rw [hji89] at A76)
                                    (try rw [hji89] at A79)
                                    have hji89w : (IntKind.i64.wrap (x12_3 - 1)) = ji89 := (i64_w _).trans hji89
                                    by_cases c90 : 0 ≤ (ji89)
                                    · rw [if_pos c90] at H
                                      have c90b0 : decide (0 ≤ (ji89)) = true := decide_eq_true c90
                                      clear c90
                                      by_cases c91 : (ji89) < (x6_2.length : Int)
                                      · rw [if_pos c91] at H
                                        have c91b0 : decide ((ji89) < (x6_2.length : Int)) = true := decide_eq_true c91
                                        clear c91
                                        obtain rfl := Option.some.inj H
                                        obtain ⟨Ao92, co92, eo92⟩ := Kd.R_slice HO_6.out
                                        subst eo92
                                        go_wp2_with (first | ((with_reducible refine gate_callee (f := 29) rfl ?_); refine goesL_ (some 75) rfl rfl Try.func29 (by kernel_rfl) rfl #[.string x5_2, .int .i64 (Int.tmod (wrap64 (a1)) (wrap64 (8 * (x5_2.size : Int))))] rfl (by (try simp only [List.map_toArray, List.map_cons, List.map_nil]); first | done | rfl | (simp only [List.length_drop, List.length_take]; rfl) | (simp only [decide_eq_true_eq, decide_eq_false_iff_not] at *; congr <;> (first | rfl | (refine (congrArg (Value.int .i64) ?_ : Value.int .i64 _ = Value.int .i64 _); unfold wrap64; omega) | fail)) | fail) ?_; (with_reducible refine (ancepsref56_Turned.calls x5_2 (Int.tmod (wrap64 (a1)) (wrap64 (8 * (x5_2.size : Int)))) t276 _ A75.out).mono ?_); rintro e w93 ⟨rfl, hb⟩; refine ⟨_, rfl, ?_⟩; have n0_ := Aside0.mk (Kd.R_below (by (with_reducible repeat (first | apply Kd.R_alloc | apply Kd.R_drewN | apply Kd.R_drew)); exact HO_6.out) hb); have n1_ := Aside0.mk (below_step (by repeat (first | (with_reducible first | exact HB.out | apply below_alloc | apply pw_below_drewN | apply below_drew1) | exact HB.out)) hb); clear HO_6; clear HB; have HO_6 := n0_; have HB := n1_; clear n0_ n1_; (try clear hb); (try clear hb2); (try clear hk); (try clear hi)) | ((with_reducible refine gate_callee (f := 16) rfl ?_); refine goesL_ (some 76) rfl rfl Try.func16 (by kernel_rfl) rfl #[.string t276] rfl (by (try simp only [List.map_toArray, List.map_cons, List.map_nil]); first | done | rfl | (simp only [List.length_drop, List.length_take]; rfl) | (simp only [decide_eq_true_eq, decide_eq_false_iff_not] at *; congr <;> (first | rfl | (refine (congrArg (Value.int .i64) ?_ : Value.int .i64 _ = Value.int .i64 _); unfold wrap64; omega) | fail)) | fail) ?_; (with_reducible refine (journal_Frames.calls k3 t276 t277 t278 _ A76.out).mono ?_); rintro e w94 ⟨v279, rfl, ho0, hb⟩; refine ⟨_, rfl, ?_⟩; have n0_ := Aside0.mk (Kd.R_below (by (with_reducible repeat (first | apply Kd.R_alloc | apply Kd.R_drewN | apply Kd.R_drew)); exact HO_6.out) hb); have n1_ := Aside0.mk (Kd.R_lower ho0 (below_size (by repeat (first | (with_reducible first | exact HB.out | apply below_alloc | apply pw_below_drewN | apply below_drew1) | exact HB.out)))); have n2_ := Aside0.mk (below_step (by repeat (first | (with_reducible first | exact HB.out | apply below_alloc | apply pw_below_drewN | apply below_drew1) | exact HB.out)) hb); clear HO_6; clear HB; have HO_6 := n0_; have HO280 := n1_; have HB := n2_; clear n0_ n1_ n2_; (try clear hb); (try clear hb2); (try clear hk); (try clear hi); (try clear ho0); obtain ⟨i095, hi095, _, hsz95, _⟩ := info_parts info9; obtain ⟨hcut95, hA95, hC95⟩ := print_take_of (P := Try.prog) Value.string (⟨#[]⟩ : ByteArray) 27 9 .i64 Try.underlying27 hi095 hsz95 A0 c0 l0 x12_3 (of_decide_eq_true (by first | (with_reducible assumption) | assumption)) (of_decide_eq_true (by first | (with_reducible assumption) | assumption)) HC0.out; have HR281 := Aside0.mk (Kd.C_of_reads (h1 := fun _ => rfl) (hA95 _ (Kd.reads_of_C HR0.out))); have HC281 := Aside0.mk hC95; clear hA95 hC95 hi095 hsz95; obtain ⟨Ao96, co96, eo96⟩ := Kd.R_slice HO280.out; subst eo96) | ((with_reducible refine gate_callee (f := 19) rfl ?_); refine goesL_ (some 83) rfl rfl Try.func19 (by kernel_rfl) rfl #[.slice Ao96 t277.length co96, .slice A0 (l0.take (x12_3 : Int).toNat).length c0] rfl (by (try simp only [List.map_toArray, List.map_cons, List.map_nil]); first | done | (rw [show (l0.take (x12_3 : Int).toNat).length = x12_3.toNat from (by rw [List.length_take]; have h_ : (x12_3 : Int) ≤ (l0.length : Int) := of_decide_eq_true (by first | (with_reducible assumption) | assumption); omega)] <;> rfl) | rfl | (simp only [List.length_drop, List.length_take]; rfl) | (simp only [decide_eq_true_eq, decide_eq_false_iff_not] at *; congr <;> (first | rfl | (refine (congrArg (Value.int .i64) ?_ : Value.int .i64 _ = Value.int .i64 _); unfold wrap64; omega) | fail)) | fail) ?_; (with_reducible refine (ancepsref56_Same.calls k3 _ _ t277 _ _ (l0.take (x12_3 : Int).toNat) true _ ?side1 ?side2 ?side3 ?side4 A79.out).mono ?_); (case side1 => repeat (first | exact (Kd.R_reads' HO280.out).2.2 | (with_reducible refine Kd.C_alloc ?_ _) | (with_reducible refine Kd.C_drewN ?_ _) | (with_reducible refine Kd.C_drew ?_))); (case side2 => exact (Kd.R_reads' HO280.out).2.1); (case side3 => repeat (first | exact (Kd.C_below HR281.out HB.out) | (with_reducible refine Kd.C_alloc ?_ _) | (with_reducible refine Kd.C_drewN ?_ _) | (with_reducible refine Kd.C_drew ?_))); (case side4 => exact HC281.out); rintro e w' ⟨rfl, ⟨nd, rfl⟩⟩; refine ⟨_, rfl, ?_⟩; have p283 : 0 ≤ ((ji89) : Int) := of_decide_eq_true (by first | (with_reducible assumption) | assumption); have q283 : (ji89) < (x6_2.length : Int) := of_decide_eq_true (by first | (with_reducible assumption) | assumption); obtain ⟨ad283, e283, hx283_0⟩ := Kd.at_int (Kd.R_reads' HO_6.out).2.2 (ji89) p283 q283; cases e283; replace p283 := eq_true p283; replace q283 := eq_true q283))
                                        go_ret
                                        exact ⟨by first | rfl | (simp [errW_none, errW_some] <;> rfl) | (simp only [← hji89]; first | rfl | (simp [errW_none, errW_some] <;> rfl)) | (simp [*, errW_none, errW_some] <;> rfl), by repeat (first | (with_reducible first | exact HB.out | apply below_alloc | apply pw_below_drewN | apply below_drew1) | exact HB.out)⟩
                                      · rw [if_neg c91] at H
                                        exact absurd H (by simp)
                                    · rw [if_neg c90] at H
                                      exact absurd H (by simp)
                                  · rw [if_neg c88] at H
                                    have c88b0 : decide (0 < x12_3) = false := decide_eq_false c88
                                    clear c88
                                    obtain rfl := Option.some.inj H
                                    obtain ⟨Ao97, co97, eo97⟩ := Kd.R_slice HO_6.out
                                    subst eo97
                                    go_wp2_with (first | ((with_reducible refine gate_callee (f := 29) rfl ?_); refine goesL_ (some 75) rfl rfl Try.func29 (by kernel_rfl) rfl #[.string x5_2, .int .i64 (Int.tmod (wrap64 (a1)) (wrap64 (8 * (x5_2.size : Int))))] rfl (by (try simp only [List.map_toArray, List.map_cons, List.map_nil]); first | done | rfl | (simp only [List.length_drop, List.length_take]; rfl) | (simp only [decide_eq_true_eq, decide_eq_false_iff_not] at *; congr <;> (first | rfl | (refine (congrArg (Value.int .i64) ?_ : Value.int .i64 _ = Value.int .i64 _); unfold wrap64; omega) | fail)) | fail) ?_; (with_reducible refine (ancepsref56_Turned.calls x5_2 (Int.tmod (wrap64 (a1)) (wrap64 (8 * (x5_2.size : Int)))) t276 _ A75.out).mono ?_); rintro e w98 ⟨rfl, hb⟩; refine ⟨_, rfl, ?_⟩; have n0_ := Aside0.mk (Kd.R_below (by (with_reducible repeat (first | apply Kd.R_alloc | apply Kd.R_drewN | apply Kd.R_drew)); exact HO_6.out) hb); have n1_ := Aside0.mk (below_step (by repeat (first | (with_reducible first | exact HB.out | apply below_alloc | apply pw_below_drewN | apply below_drew1) | exact HB.out)) hb); clear HO_6; clear HB; have HO_6 := n0_; have HB := n1_; clear n0_ n1_; (try clear hb); (try clear hb2); (try clear hk); (try clear hi)) | ((with_reducible refine gate_callee (f := 16) rfl ?_); refine goesL_ (some 76) rfl rfl Try.func16 (by kernel_rfl) rfl #[.string t276] rfl (by (try simp only [List.map_toArray, List.map_cons, List.map_nil]); first | done | rfl | (simp only [List.length_drop, List.length_take]; rfl) | (simp only [decide_eq_true_eq, decide_eq_false_iff_not] at *; congr <;> (first | rfl | (refine (congrArg (Value.int .i64) ?_ : Value.int .i64 _ = Value.int .i64 _); unfold wrap64; omega) | fail)) | fail) ?_; (with_reducible refine (journal_Frames.calls k3 t276 t277 t278 _ A76.out).mono ?_); rintro e w99 ⟨v279, rfl, ho0, hb⟩; refine ⟨_, rfl, ?_⟩; have n0_ := Aside0.mk (Kd.R_below (by (with_reducible repeat (first | apply Kd.R_alloc | apply Kd.R_drewN | apply Kd.R_drew)); exact HO_6.out) hb); have n1_ := Aside0.mk (Kd.R_lower ho0 (below_size (by repeat (first | (with_reducible first | exact HB.out | apply below_alloc | apply pw_below_drewN | apply below_drew1) | exact HB.out)))); have n2_ := Aside0.mk (below_step (by repeat (first | (with_reducible first | exact HB.out | apply below_alloc | apply pw_below_drewN | apply below_drew1) | exact HB.out)) hb); clear HO_6; clear HB; have HO_6 := n0_; have HO280 := n1_; have HB := n2_; clear n0_ n1_ n2_; (try clear hb); (try clear hb2); (try clear hk); (try clear hi); (try clear ho0); obtain ⟨i0100, hi0100, _, hsz100, _⟩ := info_parts info9; obtain ⟨hcut100, hA100, hC100⟩ := print_take_of (P := Try.prog) Value.string (⟨#[]⟩ : ByteArray) 27 9 .i64 Try.underlying27 hi0100 hsz100 A0 c0 l0 x12_3 (of_decide_eq_true (by first | (with_reducible assumption) | assumption)) (of_decide_eq_true (by first | (with_reducible assumption) | assumption)) HC0.out; have HR281 := Aside0.mk (Kd.C_of_reads (h1 := fun _ => rfl) (hA100 _ (Kd.reads_of_C HR0.out))); have HC281 := Aside0.mk hC100; clear hA100 hC100 hi0100 hsz100; obtain ⟨Ao101, co101, eo101⟩ := Kd.R_slice HO280.out; subst eo101) | ((with_reducible refine gate_callee (f := 19) rfl ?_); refine goesL_ (some 83) rfl rfl Try.func19 (by kernel_rfl) rfl #[.slice Ao101 t277.length co101, .slice A0 (l0.take (x12_3 : Int).toNat).length c0] rfl (by (try simp only [List.map_toArray, List.map_cons, List.map_nil]); first | done | (rw [show (l0.take (x12_3 : Int).toNat).length = x12_3.toNat from (by rw [List.length_take]; have h_ : (x12_3 : Int) ≤ (l0.length : Int) := of_decide_eq_true (by first | (with_reducible assumption) | assumption); omega)] <;> rfl) | rfl | (simp only [List.length_drop, List.length_take]; rfl) | (simp only [decide_eq_true_eq, decide_eq_false_iff_not] at *; congr <;> (first | rfl | (refine (congrArg (Value.int .i64) ?_ : Value.int .i64 _ = Value.int .i64 _); unfold wrap64; omega) | fail)) | fail) ?_; (with_reducible refine (ancepsref56_Same.calls k3 _ _ t277 _ _ (l0.take (x12_3 : Int).toNat) true _ ?side1 ?side2 ?side3 ?side4 A79.out).mono ?_); (case side1 => repeat (first | exact (Kd.R_reads' HO280.out).2.2 | (with_reducible refine Kd.C_alloc ?_ _) | (with_reducible refine Kd.C_drewN ?_ _) | (with_reducible refine Kd.C_drew ?_))); (case side2 => exact (Kd.R_reads' HO280.out).2.1); (case side3 => repeat (first | exact (Kd.C_below HR281.out HB.out) | (with_reducible refine Kd.C_alloc ?_ _) | (with_reducible refine Kd.C_drewN ?_ _) | (with_reducible refine Kd.C_drew ?_))); (case side4 => exact HC281.out); rintro e w' ⟨rfl, ⟨nd, rfl⟩⟩; refine ⟨_, rfl, ?_⟩))
                                    go_ret
                                    exact ⟨by first | rfl | (simp [errW_none, errW_some] <;> rfl) | (simp [*, errW_none, errW_some] <;> rfl), by repeat (first | (with_reducible first | exact HB.out | apply below_alloc | apply pw_below_drewN | apply below_drew1) | exact HB.out)⟩
                              · rw [if_neg c81] at H
                                have c81b0 : (x12_3 == 0) = false := beq_eq_false_iff_ne.mpr c81
                                have c81b1 : (x12_3 != 0) = true := bne_iff_ne.mpr c81
                                by_cases c102 : x12_3 > 0
                                · rw [if_pos c102] at H
                                  have c102b0 : decide (0 < x12_3) = true := decide_eq_true c102
                                  clear c102
                                  obtain ⟨ji103, hji103⟩ : ∃ j_ : Int, (wrap64 (x12_3 - 1)) = j_ := ⟨_, rfl⟩
                                  replace H : (if 0 ≤ (ji103) then (if (ji103) < (x6_2.length : Int) then (some (t278 == (rd x6_2 (ji103)))) else (none)) else (none)) = some r := by first | (rw [hji103] at H; exact H) | (simp only [hji103] at H ⊢; exact H)
                                  (try rw [hji103] at A75)
                                  (try rw [hji103] at A76)
                                  (try rw [hji103] at A79)
                                  have hji103w : (IntKind.i64.wrap (x12_3 - 1)) = ji103 := (i64_w _).trans hji103
                                  by_cases c104 : 0 ≤ (ji103)
                                  · rw [if_pos c104] at H
                                    have c104b0 : decide (0 ≤ (ji103)) = true := decide_eq_true c104
                                    clear c104
                                    by_cases c105 : (ji103) < (x6_2.length : Int)
                                    · rw [if_pos c105] at H
                                      have c105b0 : decide ((ji103) < (x6_2.length : Int)) = true := decide_eq_true c105
                                      clear c105
                                      obtain rfl := Option.some.inj H
                                      obtain ⟨Ao106, co106, eo106⟩ := Kd.R_slice HO_6.out
                                      subst eo106
                                      go_wp2_with (first | ((with_reducible refine gate_callee (f := 29) rfl ?_); refine goesL_ (some 75) rfl rfl Try.func29 (by kernel_rfl) rfl #[.string x5_2, .int .i64 (Int.tmod (wrap64 (a1)) (wrap64 (8 * (x5_2.size : Int))))] rfl (by (try simp only [List.map_toArray, List.map_cons, List.map_nil]); first | done | rfl | (simp only [List.length_drop, List.length_take]; rfl) | (simp only [decide_eq_true_eq, decide_eq_false_iff_not] at *; congr <;> (first | rfl | (refine (congrArg (Value.int .i64) ?_ : Value.int .i64 _ = Value.int .i64 _); unfold wrap64; omega) | fail)) | fail) ?_; (with_reducible refine (ancepsref56_Turned.calls x5_2 (Int.tmod (wrap64 (a1)) (wrap64 (8 * (x5_2.size : Int)))) t276 _ A75.out).mono ?_); rintro e w107 ⟨rfl, hb⟩; refine ⟨_, rfl, ?_⟩; have n0_ := Aside0.mk (Kd.R_below (by (with_reducible repeat (first | apply Kd.R_alloc | apply Kd.R_drewN | apply Kd.R_drew)); exact HO_6.out) hb); have n1_ := Aside0.mk (below_step (by repeat (first | (with_reducible first | exact HB.out | apply below_alloc | apply pw_below_drewN | apply below_drew1) | exact HB.out)) hb); clear HO_6; clear HB; have HO_6 := n0_; have HB := n1_; clear n0_ n1_; (try clear hb); (try clear hb2); (try clear hk); (try clear hi)) | ((with_reducible refine gate_callee (f := 16) rfl ?_); refine goesL_ (some 76) rfl rfl Try.func16 (by kernel_rfl) rfl #[.string t276] rfl (by (try simp only [List.map_toArray, List.map_cons, List.map_nil]); first | done | rfl | (simp only [List.length_drop, List.length_take]; rfl) | (simp only [decide_eq_true_eq, decide_eq_false_iff_not] at *; congr <;> (first | rfl | (refine (congrArg (Value.int .i64) ?_ : Value.int .i64 _ = Value.int .i64 _); unfold wrap64; omega) | fail)) | fail) ?_; (with_reducible refine (journal_Frames.calls k3 t276 t277 t278 _ A76.out).mono ?_); rintro e w108 ⟨v279, rfl, ho0, hb⟩; refine ⟨_, rfl, ?_⟩; have n0_ := Aside0.mk (Kd.R_below (by (with_reducible repeat (first | apply Kd.R_alloc | apply Kd.R_drewN | apply Kd.R_drew)); exact HO_6.out) hb); have n1_ := Aside0.mk (Kd.R_lower ho0 (below_size (by repeat (first | (with_reducible first | exact HB.out | apply below_alloc | apply pw_below_drewN | apply below_drew1) | exact HB.out)))); have n2_ := Aside0.mk (below_step (by repeat (first | (with_reducible first | exact HB.out | apply below_alloc | apply pw_below_drewN | apply below_drew1) | exact HB.out)) hb); clear HO_6; clear HB; have HO_6 := n0_; have HO280 := n1_; have HB := n2_; clear n0_ n1_ n2_; (try clear hb); (try clear hb2); (try clear hk); (try clear hi); (try clear ho0); obtain ⟨i0109, hi0109, _, hsz109, _⟩ := info_parts info9; obtain ⟨hcut109, hA109, hC109⟩ := print_take_of (P := Try.prog) Value.string (⟨#[]⟩ : ByteArray) 27 9 .i64 Try.underlying27 hi0109 hsz109 A0 c0 l0 x12_3 (of_decide_eq_true (by first | (with_reducible assumption) | assumption)) (of_decide_eq_true (by first | (with_reducible assumption) | assumption)) HC0.out; have HR281 := Aside0.mk (Kd.C_of_reads (h1 := fun _ => rfl) (hA109 _ (Kd.reads_of_C HR0.out))); have HC281 := Aside0.mk hC109; clear hA109 hC109 hi0109 hsz109; obtain ⟨Ao110, co110, eo110⟩ := Kd.R_slice HO280.out; subst eo110) | ((with_reducible refine gate_callee (f := 19) rfl ?_); refine goesL_ (some 83) rfl rfl Try.func19 (by kernel_rfl) rfl #[.slice Ao110 t277.length co110, .slice A0 (l0.take (x12_3 : Int).toNat).length c0] rfl (by (try simp only [List.map_toArray, List.map_cons, List.map_nil]); first | done | (rw [show (l0.take (x12_3 : Int).toNat).length = x12_3.toNat from (by rw [List.length_take]; have h_ : (x12_3 : Int) ≤ (l0.length : Int) := of_decide_eq_true (by first | (with_reducible assumption) | assumption); omega)] <;> rfl) | rfl | (simp only [List.length_drop, List.length_take]; rfl) | (simp only [decide_eq_true_eq, decide_eq_false_iff_not] at *; congr <;> (first | rfl | (refine (congrArg (Value.int .i64) ?_ : Value.int .i64 _ = Value.int .i64 _); unfold wrap64; omega) | fail)) | fail) ?_; (with_reducible refine (ancepsref56_Same.calls k3 _ _ t277 _ _ (l0.take (x12_3 : Int).toNat) true _ ?side1 ?side2 ?side3 ?side4 A79.out).mono ?_); (case side1 => repeat (first | exact (Kd.R_reads' HO280.out).2.2 | (with_reducible refine Kd.C_alloc ?_ _) | (with_reducible refine Kd.C_drewN ?_ _) | (with_reducible refine Kd.C_drew ?_))); (case side2 => exact (Kd.R_reads' HO280.out).2.1); (case side3 => repeat (first | exact (Kd.C_below HR281.out HB.out) | (with_reducible refine Kd.C_alloc ?_ _) | (with_reducible refine Kd.C_drewN ?_ _) | (with_reducible refine Kd.C_drew ?_))); (case side4 => exact HC281.out); rintro e w' ⟨rfl, ⟨nd, rfl⟩⟩; refine ⟨_, rfl, ?_⟩; have p284 : 0 ≤ ((ji103) : Int) := of_decide_eq_true (by first | (with_reducible assumption) | assumption); have q284 : (ji103) < (x6_2.length : Int) := of_decide_eq_true (by first | (with_reducible assumption) | assumption); obtain ⟨ad284, e284, hx284_0⟩ := Kd.at_int (Kd.R_reads' HO_6.out).2.2 (ji103) p284 q284; cases e284; replace p284 := eq_true p284; replace q284 := eq_true q284))
                                      go_ret
                                      exact ⟨by first | rfl | (simp [errW_none, errW_some] <;> rfl) | (simp only [← hji103]; first | rfl | (simp [errW_none, errW_some] <;> rfl)) | (simp [*, errW_none, errW_some] <;> rfl), by repeat (first | (with_reducible first | exact HB.out | apply below_alloc | apply pw_below_drewN | apply below_drew1) | exact HB.out)⟩
                                    · rw [if_neg c105] at H
                                      exact absurd H (by simp)
                                  · rw [if_neg c104] at H
                                    exact absurd H (by simp)
                                · rw [if_neg c102] at H
                                  have c102b0 : decide (0 < x12_3) = false := decide_eq_false c102
                                  clear c102
                                  obtain rfl := Option.some.inj H
                                  obtain ⟨Ao111, co111, eo111⟩ := Kd.R_slice HO_6.out
                                  subst eo111
                                  go_wp2_with (first | ((with_reducible refine gate_callee (f := 29) rfl ?_); refine goesL_ (some 75) rfl rfl Try.func29 (by kernel_rfl) rfl #[.string x5_2, .int .i64 (Int.tmod (wrap64 (a1)) (wrap64 (8 * (x5_2.size : Int))))] rfl (by (try simp only [List.map_toArray, List.map_cons, List.map_nil]); first | done | rfl | (simp only [List.length_drop, List.length_take]; rfl) | (simp only [decide_eq_true_eq, decide_eq_false_iff_not] at *; congr <;> (first | rfl | (refine (congrArg (Value.int .i64) ?_ : Value.int .i64 _ = Value.int .i64 _); unfold wrap64; omega) | fail)) | fail) ?_; (with_reducible refine (ancepsref56_Turned.calls x5_2 (Int.tmod (wrap64 (a1)) (wrap64 (8 * (x5_2.size : Int)))) t276 _ A75.out).mono ?_); rintro e w112 ⟨rfl, hb⟩; refine ⟨_, rfl, ?_⟩; have n0_ := Aside0.mk (Kd.R_below (by (with_reducible repeat (first | apply Kd.R_alloc | apply Kd.R_drewN | apply Kd.R_drew)); exact HO_6.out) hb); have n1_ := Aside0.mk (below_step (by repeat (first | (with_reducible first | exact HB.out | apply below_alloc | apply pw_below_drewN | apply below_drew1) | exact HB.out)) hb); clear HO_6; clear HB; have HO_6 := n0_; have HB := n1_; clear n0_ n1_; (try clear hb); (try clear hb2); (try clear hk); (try clear hi)) | ((with_reducible refine gate_callee (f := 16) rfl ?_); refine goesL_ (some 76) rfl rfl Try.func16 (by kernel_rfl) rfl #[.string t276] rfl (by (try simp only [List.map_toArray, List.map_cons, List.map_nil]); first | done | rfl | (simp only [List.length_drop, List.length_take]; rfl) | (simp only [decide_eq_true_eq, decide_eq_false_iff_not] at *; congr <;> (first | rfl | (refine (congrArg (Value.int .i64) ?_ : Value.int .i64 _ = Value.int .i64 _); unfold wrap64; omega) | fail)) | fail) ?_; (with_reducible refine (journal_Frames.calls k3 t276 t277 t278 _ A76.out).mono ?_); rintro e w113 ⟨v279, rfl, ho0, hb⟩; refine ⟨_, rfl, ?_⟩; have n0_ := Aside0.mk (Kd.R_below (by (with_reducible repeat (first | apply Kd.R_alloc | apply Kd.R_drewN | apply Kd.R_drew)); exact HO_6.out) hb); have n1_ := Aside0.mk (Kd.R_lower ho0 (below_size (by repeat (first | (with_reducible first | exact HB.out | apply below_alloc | apply pw_below_drewN | apply below_drew1) | exact HB.out)))); have n2_ := Aside0.mk (below_step (by repeat (first | (with_reducible first | exact HB.out | apply below_alloc | apply pw_below_drewN | apply below_drew1) | exact HB.out)) hb); clear HO_6; clear HB; have HO_6 := n0_; have HO280 := n1_; have HB := n2_; clear n0_ n1_ n2_; (try clear hb); (try clear hb2); (try clear hk); (try clear hi); (try clear ho0); obtain ⟨i0114, hi0114, _, hsz114, _⟩ := info_parts info9; obtain ⟨hcut114, hA114, hC114⟩ := print_take_of (P := Try.prog) Value.string (⟨#[]⟩ : ByteArray) 27 9 .i64 Try.underlying27 hi0114 hsz114 A0 c0 l0 x12_3 (of_decide_eq_true (by first | (with_reducible assumption) | assumption)) (of_decide_eq_true (by first | (with_reducible assumption) | assumption)) HC0.out; have HR281 := Aside0.mk (Kd.C_of_reads (h1 := fun _ => rfl) (hA114 _ (Kd.reads_of_C HR0.out))); have HC281 := Aside0.mk hC114; clear hA114 hC114 hi0114 hsz114; obtain ⟨Ao115, co115, eo115⟩ := Kd.R_slice HO280.out; subst eo115) | ((with_reducible refine gate_callee (f := 19) rfl ?_); refine goesL_ (some 83) rfl rfl Try.func19 (by kernel_rfl) rfl #[.slice Ao115 t277.length co115, .slice A0 (l0.take (x12_3 : Int).toNat).length c0] rfl (by (try simp only [List.map_toArray, List.map_cons, List.map_nil]); first | done | (rw [show (l0.take (x12_3 : Int).toNat).length = x12_3.toNat from (by rw [List.length_take]; have h_ : (x12_3 : Int) ≤ (l0.length : Int) := of_decide_eq_true (by first | (with_reducible assumption) | assumption); omega)] <;> rfl) | rfl | (simp only [List.length_drop, List.length_take]; rfl) | (simp only [decide_eq_true_eq, decide_eq_false_iff_not] at *; congr <;> (first | rfl | (refine (congrArg (Value.int .i64) ?_ : Value.int .i64 _ = Value.int .i64 _); unfold wrap64; omega) | fail)) | fail) ?_; (with_reducible refine (ancepsref56_Same.calls k3 _ _ t277 _ _ (l0.take (x12_3 : Int).toNat) true _ ?side1 ?side2 ?side3 ?side4 A79.out).mono ?_); (case side1 => repeat (first | exact (Kd.R_reads' HO280.out).2.2 | (with_reducible refine Kd.C_alloc ?_ _) | (with_reducible refine Kd.C_drewN ?_ _) | (with_reducible refine Kd.C_drew ?_))); (case side2 => exact (Kd.R_reads' HO280.out).2.1); (case side3 => repeat (first | exact (Kd.C_below HR281.out HB.out) | (with_reducible refine Kd.C_alloc ?_ _) | (with_reducible refine Kd.C_drewN ?_ _) | (with_reducible refine Kd.C_drew ?_))); (case side4 => exact HC281.out); rintro e w' ⟨rfl, ⟨nd, rfl⟩⟩; refine ⟨_, rfl, ?_⟩))
                                  go_ret
                                  exact ⟨by first | rfl | (simp [errW_none, errW_some] <;> rfl) | (simp [*, errW_none, errW_some] <;> rfl), by repeat (first | (with_reducible first | exact HB.out | apply below_alloc | apply pw_below_drewN | apply below_drew1) | exact HB.out)⟩
                            · replace c80 := Bool.eq_false_iff.mpr c80
                              subst c80
                              have H1 : (some false) = some r := by rw [if_neg (show ¬ (false = true) by decide)] at H; exact H
                              clear H
                              have H := H1
                              clear H1
                              obtain rfl := Option.some.inj H
                              obtain ⟨Ao116, co116, eo116⟩ := Kd.R_slice HO_6.out
                              subst eo116
                              go_wp2_with (first | ((with_reducible refine gate_callee (f := 29) rfl ?_); refine goesL_ (some 75) rfl rfl Try.func29 (by kernel_rfl) rfl #[.string x5_2, .int .i64 (Int.tmod (wrap64 (a1)) (wrap64 (8 * (x5_2.size : Int))))] rfl (by (try simp only [List.map_toArray, List.map_cons, List.map_nil]); first | done | rfl | (simp only [List.length_drop, List.length_take]; rfl) | (simp only [decide_eq_true_eq, decide_eq_false_iff_not] at *; congr <;> (first | rfl | (refine (congrArg (Value.int .i64) ?_ : Value.int .i64 _ = Value.int .i64 _); unfold wrap64; omega) | fail)) | fail) ?_; (with_reducible refine (ancepsref56_Turned.calls x5_2 (Int.tmod (wrap64 (a1)) (wrap64 (8 * (x5_2.size : Int)))) t276 _ A75.out).mono ?_); rintro e w117 ⟨rfl, hb⟩; refine ⟨_, rfl, ?_⟩; have n0_ := Aside0.mk (Kd.R_below (by (with_reducible repeat (first | apply Kd.R_alloc | apply Kd.R_drewN | apply Kd.R_drew)); exact HO_6.out) hb); have n1_ := Aside0.mk (below_step (by repeat (first | (with_reducible first | exact HB.out | apply below_alloc | apply pw_below_drewN | apply below_drew1) | exact HB.out)) hb); clear HO_6; clear HB; have HO_6 := n0_; have HB := n1_; clear n0_ n1_; (try clear hb); (try clear hb2); (try clear hk); (try clear hi)) | ((with_reducible refine gate_callee (f := 16) rfl ?_); refine goesL_ (some 76) rfl rfl Try.func16 (by kernel_rfl) rfl #[.string t276] rfl (by (try simp only [List.map_toArray, List.map_cons, List.map_nil]); first | done | rfl | (simp only [List.length_drop, List.length_take]; rfl) | (simp only [decide_eq_true_eq, decide_eq_false_iff_not] at *; congr <;> (first | rfl | (refine (congrArg (Value.int .i64) ?_ : Value.int .i64 _ = Value.int .i64 _); unfold wrap64; omega) | fail)) | fail) ?_; (with_reducible refine (journal_Frames.calls k3 t276 t277 t278 _ A76.out).mono ?_); rintro e w118 ⟨v279, rfl, ho0, hb⟩; refine ⟨_, rfl, ?_⟩; have n0_ := Aside0.mk (Kd.R_below (by (with_reducible repeat (first | apply Kd.R_alloc | apply Kd.R_drewN | apply Kd.R_drew)); exact HO_6.out) hb); have n1_ := Aside0.mk (Kd.R_lower ho0 (below_size (by repeat (first | (with_reducible first | exact HB.out | apply below_alloc | apply pw_below_drewN | apply below_drew1) | exact HB.out)))); have n2_ := Aside0.mk (below_step (by repeat (first | (with_reducible first | exact HB.out | apply below_alloc | apply pw_below_drewN | apply below_drew1) | exact HB.out)) hb); clear HO_6; clear HB; have HO_6 := n0_; have HO280 := n1_; have HB := n2_; clear n0_ n1_ n2_; (try clear hb); (try clear hb2); (try clear hk); (try clear hi); (try clear ho0); obtain ⟨i0119, hi0119, _, hsz119, _⟩ := info_parts info9; obtain ⟨hcut119, hA119, hC119⟩ := print_take_of (P := Try.prog) Value.string (⟨#[]⟩ : ByteArray) 27 9 .i64 Try.underlying27 hi0119 hsz119 A0 c0 l0 x12_3 (of_decide_eq_true (by first | (with_reducible assumption) | assumption)) (of_decide_eq_true (by first | (with_reducible assumption) | assumption)) HC0.out; have HR281 := Aside0.mk (Kd.C_of_reads (h1 := fun _ => rfl) (hA119 _ (Kd.reads_of_C HR0.out))); have HC281 := Aside0.mk hC119; clear hA119 hC119 hi0119 hsz119; obtain ⟨Ao120, co120, eo120⟩ := Kd.R_slice HO280.out; subst eo120) | ((with_reducible refine gate_callee (f := 19) rfl ?_); refine goesL_ (some 83) rfl rfl Try.func19 (by kernel_rfl) rfl #[.slice Ao120 t277.length co120, .slice A0 (l0.take (x12_3 : Int).toNat).length c0] rfl (by (try simp only [List.map_toArray, List.map_cons, List.map_nil]); first | done | (rw [show (l0.take (x12_3 : Int).toNat).length = x12_3.toNat from (by rw [List.length_take]; have h_ : (x12_3 : Int) ≤ (l0.length : Int) := of_decide_eq_true (by first | (with_reducible assumption) | assumption); omega)] <;> rfl) | rfl | (simp only [List.length_drop, List.length_take]; rfl) | (simp only [decide_eq_true_eq, decide_eq_false_iff_not] at *; congr <;> (first | rfl | (refine (congrArg (Value.int .i64) ?_ : Value.int .i64 _ = Value.int .i64 _); unfold wrap64; omega) | fail)) | fail) ?_; (with_reducible refine (ancepsref56_Same.calls k3 _ _ t277 _ _ (l0.take (x12_3 : Int).toNat) false _ ?side1 ?side2 ?side3 ?side4 A79.out).mono ?_); (case side1 => repeat (first | exact (Kd.R_reads' HO280.out).2.2 | (with_reducible refine Kd.C_alloc ?_ _) | (with_reducible refine Kd.C_drewN ?_ _) | (with_reducible refine Kd.C_drew ?_))); (case side2 => exact (Kd.R_reads' HO280.out).2.1); (case side3 => repeat (first | exact (Kd.C_below HR281.out HB.out) | (with_reducible refine Kd.C_alloc ?_ _) | (with_reducible refine Kd.C_drewN ?_ _) | (with_reducible refine Kd.C_drew ?_))); (case side4 => exact HC281.out); rintro e w' ⟨rfl, ⟨nd, rfl⟩⟩; refine ⟨_, rfl, ?_⟩))
                              go_ret
                              exact ⟨by first | rfl | (simp [errW_none, errW_some] <;> rfl) | (simp [*, errW_none, errW_some] <;> rfl), by repeat (first | (with_reducible first | exact HB.out | apply below_alloc | apply pw_below_drewN | apply below_drew1) | exact HB.out)⟩
                          · rw [if_neg c78] at H
                            exact absurd H (by simp)
                        · rw [if_neg c77] at H
                          exact absurd H (by simp)

end Go.Proofs.Ytoepdplglablcaa.J
