-- Written by wip/oprint (this session's own program): the machine's side of a proof. Not trusted: Lean checks it.
import Derived.Test.YtoepdplglablcaaJx0
import Derived.Test.YtoepdplglablcaaJx2
import Derived.Test.YtoepdplglablcaaJx3
namespace Go.Proofs.Ytoepdplglablcaa.J
open Go.RowKit Go.Proofs.YtoepdplglablcaaW.PrintWords Go.Proofs.YtoepdplglablcaaW.PrintLast Go.Proofs.YtoepdplglablcaaW.PrintMore
attribute [local go_sem] max2_int min2_int max_two min_two max_three min_three max_four min_four   -- for this text's walks alone
set_option linter.unusedVariables false
set_option linter.unusedSimpArgs false

/-! ### ancepslaw56_JournalFrame: function 3 -/
mutual
def ancepslaw56_JournalFrame.j0 : Nat → ByteArray → Bool → Option (Bool)
  | 0, _, _ => none
  | k + 1, x0, x15 => if x15 = true then ((ancepslaw56_awake.f k).bind fun t166 => (some t166)) else ((journal_Frame.f k x0).bind fun bt167 => ((ancepsref56_Frame.f k x0).bind fun bt169 => (if bt167.1.toList = bt169.1.toList then (if bt167.2 = bt169.2 then ((journal_Check.f k x0).bind fun t171 => ((ancepsref56_Check.f k x0).bind fun t172 => (if t171 = t172 then (ancepslaw56_JournalFrame.j1 k x0 bt167.1 bt167.2 bt169.1 bt169.2 (bt167.2 != 0)) else (ancepslaw56_JournalFrame.j1 k x0 bt167.1 bt167.2 bt169.1 bt169.2 true)))) else (ancepslaw56_JournalFrame.j1 k x0 bt167.1 bt167.2 bt169.1 bt169.2 true)) else (ancepslaw56_JournalFrame.j1 k x0 bt167.1 bt167.2 bt169.1 bt169.2 true))))
def ancepslaw56_JournalFrame.j1 : Nat → ByteArray → ByteArray → Int → ByteArray → Int → Bool → Option (Bool)
  | 0, _, _, _, _, _, _ => none
  | k + 1, x0, x3, x4, x5, x6, x45 => if x45 = true then (if x3.toList = x5.toList then (if x4 = x6 then ((journal_Check.f k x0).bind fun t173 => ((ancepsref56_Check.f k x0).bind fun t174 => (some (t173 == t174)))) else (some false)) else (some false)) else ((journal_Frames.f k x3).bind fun bt175 => (if bt175.2 = (x3.size : Int) then ((slices_Equal_string_string.f k bt175.1 (([x0] : List ByteArray))).bind fun t182 => (some t182)) else (some false)))
end
def ancepslaw56_JournalFrame.f (k : Nat) (a0 : ByteArray) : Option (Bool) := (ancepslaw56_awake.f k).bind fun t165 => (if t165 = true then (ancepslaw56_JournalFrame.j0 k a0 (decide ((a0.size : Int) > 1000))) else (ancepslaw56_JournalFrame.j0 k a0 true))
theorem ancepslaw56_JournalFrame.mono_l : ∀ k, (∀ y0 y1, LeO (ancepslaw56_JournalFrame.j0 k y0 y1) (ancepslaw56_JournalFrame.j0 (k + 1) y0 y1)) ∧ (∀ y0 y1 y2 y3 y4 y5, LeO (ancepslaw56_JournalFrame.j1 k y0 y1 y2 y3 y4 y5) (ancepslaw56_JournalFrame.j1 (k + 1) y0 y1 y2 y3 y4 y5))
  | 0 => ⟨fun _ _ r h => by simp [ancepslaw56_JournalFrame.j0] at h, fun _ _ _ _ _ _ r h => by simp [ancepslaw56_JournalFrame.j1] at h⟩
  | k + 1 => by
    obtain ⟨ih0, ih1⟩ := ancepslaw56_JournalFrame.mono_l k
    refine ⟨?_, ?_⟩
    · intro y0 y1
      unfold ancepslaw56_JournalFrame.j0
      repeat' first
      | (with_reducible exact ih0 _ _)
      | (with_reducible exact ih1 _ _ _ _ _ _)
      | (with_reducible exact ancepslaw56_awake.mono _)
      | (with_reducible exact ancepsref56_Check.mono _ _)
      | (with_reducible exact ancepsref56_Frame.mono _ _)
      | (with_reducible exact journal_Check.mono _ _)
      | (with_reducible exact journal_Frame.mono _ _)
      | (with_reducible exact journal_Frames.mono _ _)
      | (with_reducible exact slices_Equal_string_string.mono _ _ _)
      | (with_reducible exact LeO.refl _)
      | (with_reducible exact LeO.none _)
      | (with_reducible refine LeO.ite ?_ ?_)
      | (with_reducible refine LeO.bind ?_ (fun _ => ?_))
      | exact ih0 _ _
      | exact ih1 _ _ _ _ _ _
      | exact ancepslaw56_awake.mono _
      | exact ancepsref56_Check.mono _ _
      | exact ancepsref56_Frame.mono _ _
      | exact journal_Check.mono _ _
      | exact journal_Frame.mono _ _
      | exact journal_Frames.mono _ _
      | exact slices_Equal_string_string.mono _ _ _
      | exact LeO.none _
      | refine LeO.ite ?_ ?_
      | refine LeO.bind ?_ (fun _ => ?_)
    · intro y0 y1 y2 y3 y4 y5
      unfold ancepslaw56_JournalFrame.j1
      repeat' first
      | (with_reducible exact ih0 _ _)
      | (with_reducible exact ih1 _ _ _ _ _ _)
      | (with_reducible exact ancepslaw56_awake.mono _)
      | (with_reducible exact ancepsref56_Check.mono _ _)
      | (with_reducible exact ancepsref56_Frame.mono _ _)
      | (with_reducible exact journal_Check.mono _ _)
      | (with_reducible exact journal_Frame.mono _ _)
      | (with_reducible exact journal_Frames.mono _ _)
      | (with_reducible exact slices_Equal_string_string.mono _ _ _)
      | (with_reducible exact LeO.refl _)
      | (with_reducible exact LeO.none _)
      | (with_reducible refine LeO.ite ?_ ?_)
      | (with_reducible refine LeO.bind ?_ (fun _ => ?_))
      | exact ih0 _ _
      | exact ih1 _ _ _ _ _ _
      | exact ancepslaw56_awake.mono _
      | exact ancepsref56_Check.mono _ _
      | exact ancepsref56_Frame.mono _ _
      | exact journal_Check.mono _ _
      | exact journal_Frame.mono _ _
      | exact journal_Frames.mono _ _
      | exact slices_Equal_string_string.mono _ _ _
      | exact LeO.none _
      | refine LeO.ite ?_ ?_
      | refine LeO.bind ?_ (fun _ => ?_)
theorem ancepslaw56_JournalFrame.mono : ∀ a0 k, LeO (ancepslaw56_JournalFrame.f k a0) (ancepslaw56_JournalFrame.f (k + 1) a0) := by
  intro a0 k
  obtain ⟨ih0, ih1⟩ := ancepslaw56_JournalFrame.mono_l k
  unfold ancepslaw56_JournalFrame.f
  repeat' first
      | (with_reducible exact ih0 _ _)
      | (with_reducible exact ih1 _ _ _ _ _ _)
      | (with_reducible exact ancepslaw56_awake.mono _)
      | (with_reducible exact ancepsref56_Check.mono _ _)
      | (with_reducible exact ancepsref56_Frame.mono _ _)
      | (with_reducible exact journal_Check.mono _ _)
      | (with_reducible exact journal_Frame.mono _ _)
      | (with_reducible exact journal_Frames.mono _ _)
      | (with_reducible exact slices_Equal_string_string.mono _ _ _)
      | (with_reducible exact LeO.refl _)
      | (with_reducible exact LeO.none _)
      | (with_reducible refine LeO.ite ?_ ?_)
      | (with_reducible refine LeO.bind ?_ (fun _ => ?_))
      | exact ih0 _ _
      | exact ih1 _ _ _ _ _ _
      | exact ancepslaw56_awake.mono _
      | exact ancepsref56_Check.mono _ _
      | exact ancepsref56_Frame.mono _ _
      | exact journal_Check.mono _ _
      | exact journal_Frame.mono _ _
      | exact journal_Frames.mono _ _
      | exact slices_Equal_string_string.mono _ _ _
      | exact LeO.none _
      | refine LeO.ite ?_ ?_
      | refine LeO.bind ?_ (fun _ => ?_)
set_option maxHeartbeats 8000000 in
set_option maxRecDepth 100000 in
theorem ancepslaw56_JournalFrame.calls (k : Nat) (a0 : ByteArray) (r : Bool) (w : World) (h : ancepslaw56_JournalFrame.f k a0 = some r) :
    Calls Try.prog 3 #[.string a0] w fun e w' => e = .returned (.bool r) ∧ Below w.heap.size w w' := by
  have HB := Aside0.mk (Below.refl w.heap.size w)
  have H : ((ancepslaw56_awake.f k).bind fun t165 => (if t165 = true then (ancepslaw56_JournalFrame.j0 k a0 (decide ((a0.size : Int) > 1000))) else (ancepslaw56_JournalFrame.j0 k a0 true))) = some r := h
  clear h
  have HC2 := Aside0.mk H
  clear H
  go_enter Try.func3, Try.ntmps3
  go_upto_region 1 with (fail)
  go_cut [15] (fun v15 wc => ∃ (kq : Nat) (x15_1 : Bool), v15 = .bool x15_1 ∧ Aside0 (ancepslaw56_JournalFrame.j0 kq a0 x15_1 = some r) ∧ Aside0 (kq ≤ k) ∧ Aside0 (Below w.heap.size w wc))
  case first =>
    have H := HC2.out
    clear HC2
    replace H := Option.bind_eq_some_iff.mp H
    obtain ⟨t165, A30, H⟩ := H
    replace H : (if t165 = true then (ancepslaw56_JournalFrame.j0 k a0 (decide ((a0.size : Int) > 1000))) else (ancepslaw56_JournalFrame.j0 k a0 true)) = some r := H
    have A3 := Aside0.mk A30
    clear A30
    by_cases c4 : t165 = true
    · subst c4
      have H1 : (ancepslaw56_JournalFrame.j0 k a0 (decide ((a0.size : Int) > 1000))) = some r := by rw [if_pos rfl] at H; exact H
      clear H
      have H := H1
      clear H1
      have H' := Aside0.mk H
      clear H
      go_wp2_with (first | ((with_reducible refine gate_callee (f := 11) rfl ?_); refine goesL_ (some 9) rfl rfl Try.func11 (by kernel_rfl) rfl #[] rfl (by (try simp only [List.map_toArray, List.map_cons, List.map_nil]); first | done | rfl | (simp only [List.length_drop, List.length_take]; rfl) | (simp only [decide_eq_true_eq, decide_eq_false_iff_not] at *; congr <;> (first | rfl | (refine (congrArg (Value.int .i64) ?_ : Value.int .i64 _ = Value.int .i64 _); unfold wrap64; omega) | fail)) | fail) ?_; (with_reducible refine (ancepslaw56_awake.calls k  true _ A3.out).mono ?_); rintro e w5 ⟨rfl, hb⟩; refine ⟨_, rfl, ?_⟩; have n0_ := Aside0.mk (below_step (by repeat (first | (with_reducible first | exact HB.out | apply below_alloc | apply pw_below_drewN | apply below_drew1) | exact HB.out)) hb); clear HB; have HB := n0_; clear n0_; (try clear hb); (try clear hb2); (try clear hk); (try clear hi)))
      go_meet
      case rel => exact ⟨_, (decide ((a0.size : Int) > 1000)), (by first | rfl | (simp; done) | (simp [*]; done)), H', ⟨by first | omega | exact Nat.le_refl _⟩, ⟨by repeat (first | (with_reducible first | exact HB.out | apply below_alloc | apply pw_below_drewN | apply below_drew1) | exact HB.out)⟩⟩
    · replace c4 := Bool.eq_false_iff.mpr c4
      subst c4
      have H1 : (ancepslaw56_JournalFrame.j0 k a0 true) = some r := by rw [if_neg (show ¬ (false = true) by decide)] at H; exact H
      clear H
      have H := H1
      clear H1
      have H' := Aside0.mk H
      clear H
      go_wp2_with (first | ((with_reducible refine gate_callee (f := 11) rfl ?_); refine goesL_ (some 9) rfl rfl Try.func11 (by kernel_rfl) rfl #[] rfl (by (try simp only [List.map_toArray, List.map_cons, List.map_nil]); first | done | rfl | (simp only [List.length_drop, List.length_take]; rfl) | (simp only [decide_eq_true_eq, decide_eq_false_iff_not] at *; congr <;> (first | rfl | (refine (congrArg (Value.int .i64) ?_ : Value.int .i64 _ = Value.int .i64 _); unfold wrap64; omega) | fail)) | fail) ?_; (with_reducible refine (ancepslaw56_awake.calls k  false _ A3.out).mono ?_); rintro e w6 ⟨rfl, hb⟩; refine ⟨_, rfl, ?_⟩; have n0_ := Aside0.mk (below_step (by repeat (first | (with_reducible first | exact HB.out | apply below_alloc | apply pw_below_drewN | apply below_drew1) | exact HB.out)) hb); clear HB; have HB := n0_; clear n0_; (try clear hb); (try clear hb2); (try clear hk); (try clear hi)))
      go_meet
      case rel => exact ⟨_, (true), (by first | rfl | (simp; done) | (simp [*]; done)), H', ⟨by first | omega | exact Nat.le_refl _⟩, ⟨by repeat (first | (with_reducible first | exact HB.out | apply below_alloc | apply pw_below_drewN | apply below_drew1) | exact HB.out)⟩⟩
  case rest =>
    clear HC2
    try clear c1
    try clear p2
    try clear c3
    try clear c4
    try clear p6
    obtain ⟨kq, x15_1, rfl, HA, HJ1, HB⟩ := hcut
    cases kq with
    | zero => exact absurd HA.out (by simp [ancepslaw56_JournalFrame.j0])
    | succ kj1 =>
      have H := HA.out
      clear HA
      simp only [ancepslaw56_JournalFrame.j0] at H
      by_cases c7 : x15_1 = true
      · subst c7
        have H1 : ((ancepslaw56_awake.f kj1).bind fun t166 => (some t166)) = some r := by rw [if_pos rfl] at H; exact H
        clear H
        have H := H1
        clear H1
        replace H := Option.bind_eq_some_iff.mp H
        obtain ⟨t166, A80, H⟩ := H
        replace H : (some t166) = some r := H
        have A8 := Aside0.mk A80
        clear A80
        obtain rfl := Option.some.inj H
        go_wp2_with (first | ((with_reducible refine gate_callee (f := 11) rfl ?_); refine goesL_ (some 16) rfl rfl Try.func11 (by kernel_rfl) rfl #[] rfl (by (try simp only [List.map_toArray, List.map_cons, List.map_nil]); first | done | rfl | (simp only [List.length_drop, List.length_take]; rfl) | (simp only [decide_eq_true_eq, decide_eq_false_iff_not] at *; congr <;> (first | rfl | (refine (congrArg (Value.int .i64) ?_ : Value.int .i64 _ = Value.int .i64 _); unfold wrap64; omega) | fail)) | fail) ?_; (with_reducible refine (ancepslaw56_awake.calls kj1  t166 _ A8.out).mono ?_); rintro e w9 ⟨rfl, hb⟩; refine ⟨_, rfl, ?_⟩; have n0_ := Aside0.mk (below_step (by repeat (first | (with_reducible first | exact HB.out | apply below_alloc | apply pw_below_drewN | apply below_drew1) | exact HB.out)) hb); clear HB; have HB := n0_; clear n0_; (try clear hb); (try clear hb2); (try clear hk); (try clear hi)))
        go_ret
        exact ⟨by first | rfl | (simp [errW_none, errW_some] <;> rfl) | (simp [*, errW_none, errW_some] <;> rfl), by repeat (first | (with_reducible first | exact HB.out | apply below_alloc | apply pw_below_drewN | apply below_drew1) | exact HB.out)⟩
      · replace c7 := Bool.eq_false_iff.mpr c7
        subst c7
        have H1 : ((journal_Frame.f kj1 a0).bind fun bt167 => ((ancepsref56_Frame.f kj1 a0).bind fun bt169 => (if bt167.1.toList = bt169.1.toList then (if bt167.2 = bt169.2 then ((journal_Check.f kj1 a0).bind fun t171 => ((ancepsref56_Check.f kj1 a0).bind fun t172 => (if t171 = t172 then (ancepslaw56_JournalFrame.j1 kj1 a0 bt167.1 bt167.2 bt169.1 bt169.2 (bt167.2 != 0)) else (ancepslaw56_JournalFrame.j1 kj1 a0 bt167.1 bt167.2 bt169.1 bt169.2 true)))) else (ancepslaw56_JournalFrame.j1 kj1 a0 bt167.1 bt167.2 bt169.1 bt169.2 true)) else (ancepslaw56_JournalFrame.j1 kj1 a0 bt167.1 bt167.2 bt169.1 bt169.2 true)))) = some r := by rw [if_neg (show ¬ (false = true) by decide)] at H; exact H
        clear H
        have H := H1
        clear H1
        replace H := Option.bind_eq_some_iff.mp H
        obtain ⟨⟨t167, t168⟩, A100, H⟩ := H
        replace H : ((ancepsref56_Frame.f kj1 a0).bind fun bt169 => (if t167.toList = bt169.1.toList then (if t168 = bt169.2 then ((journal_Check.f kj1 a0).bind fun t171 => ((ancepsref56_Check.f kj1 a0).bind fun t172 => (if t171 = t172 then (ancepslaw56_JournalFrame.j1 kj1 a0 t167 t168 bt169.1 bt169.2 (t168 != 0)) else (ancepslaw56_JournalFrame.j1 kj1 a0 t167 t168 bt169.1 bt169.2 true)))) else (ancepslaw56_JournalFrame.j1 kj1 a0 t167 t168 bt169.1 bt169.2 true)) else (ancepslaw56_JournalFrame.j1 kj1 a0 t167 t168 bt169.1 bt169.2 true))) = some r := H
        have A10 := Aside0.mk A100
        clear A100
        replace H := Option.bind_eq_some_iff.mp H
        obtain ⟨⟨t169, t170⟩, A110, H⟩ := H
        replace H : (if t167.toList = t169.toList then (if t168 = t170 then ((journal_Check.f kj1 a0).bind fun t171 => ((ancepsref56_Check.f kj1 a0).bind fun t172 => (if t171 = t172 then (ancepslaw56_JournalFrame.j1 kj1 a0 t167 t168 t169 t170 (t168 != 0)) else (ancepslaw56_JournalFrame.j1 kj1 a0 t167 t168 t169 t170 true)))) else (ancepslaw56_JournalFrame.j1 kj1 a0 t167 t168 t169 t170 true)) else (ancepslaw56_JournalFrame.j1 kj1 a0 t167 t168 t169 t170 true)) = some r := H
        have A11 := Aside0.mk A110
        clear A110
        have HC12 := Aside0.mk H
        clear H
        go_upto_region 5 with (first | ((with_reducible refine gate_callee (f := 12) rfl ?_); refine goesL_ (some 19) rfl rfl Try.func12 (by kernel_rfl) rfl #[.string a0] rfl (by (try simp only [List.map_toArray, List.map_cons, List.map_nil]); first | done | rfl | (simp only [List.length_drop, List.length_take]; rfl) | (simp only [decide_eq_true_eq, decide_eq_false_iff_not] at *; congr <;> (first | rfl | (refine (congrArg (Value.int .i64) ?_ : Value.int .i64 _ = Value.int .i64 _); unfold wrap64; omega) | fail)) | fail) ?_; (with_reducible refine (journal_Frame.calls kj1 a0 t167 t168 _ A10.out).mono ?_); rintro e w13 ⟨rfl, hb⟩; refine ⟨_, rfl, ?_⟩; have n0_ := Aside0.mk (below_step (by repeat (first | (with_reducible first | exact HB.out | apply below_alloc | apply pw_below_drewN | apply below_drew1) | exact HB.out)) hb); clear HB; have HB := n0_; clear n0_; (try clear hb); (try clear hb2); (try clear hk); (try clear hi)) | ((with_reducible refine gate_callee (f := 13) rfl ?_); refine goesL_ (some 24) rfl rfl Try.func13 (by kernel_rfl) rfl #[.string a0] rfl (by (try simp only [List.map_toArray, List.map_cons, List.map_nil]); first | done | rfl | (simp only [List.length_drop, List.length_take]; rfl) | (simp only [decide_eq_true_eq, decide_eq_false_iff_not] at *; congr <;> (first | rfl | (refine (congrArg (Value.int .i64) ?_ : Value.int .i64 _ = Value.int .i64 _); unfold wrap64; omega) | fail)) | fail) ?_; (with_reducible refine (ancepsref56_Frame.calls kj1 a0 t169 t170 _ A11.out).mono ?_); rintro e w14 ⟨rfl, hb⟩; refine ⟨_, rfl, ?_⟩; have n0_ := Aside0.mk (below_step (by repeat (first | (with_reducible first | exact HB.out | apply below_alloc | apply pw_below_drewN | apply below_drew1) | exact HB.out)) hb); clear HB; have HB := n0_; clear n0_; (try clear hb); (try clear hb2); (try clear hk); (try clear hi)))
        (try simp only [Act.put, List.setIfInBounds_toArray, List.set_cons_zero, List.set_cons_succ])
        go_cut [45] (fun v45 wc => ∃ (kq : Nat) (x45_11 : Bool), v45 = .bool x45_11 ∧ Aside0 (ancepslaw56_JournalFrame.j1 kq a0 t167 t168 t169 t170 x45_11 = some r) ∧ Aside0 (kq ≤ kj1) ∧ Aside0 (Below w.heap.size w wc))
        case first =>
          have H := HC12.out
          clear HC12
          by_cases c15 : t167.toList = t169.toList
          · rw [if_pos c15] at H
            have c15b0 : (t167.toList == t169.toList) = true := beq_iff_eq.mpr c15
            have c15b1 : (t167.toList != t169.toList) = false := bne_eq_false_iff_eq.mpr c15
            clear c15
            (first | rw [c15b0] | (simp only [i64_w, i32_w]; rw [c15b0]) | skip)
            by_cases c16 : t168 = t170
            · rw [if_pos c16] at H
              have c16b0 : (t168 == t170) = true := beq_iff_eq.mpr c16
              have c16b1 : (t168 != t170) = false := bne_eq_false_iff_eq.mpr c16
              clear c16
              replace H := Option.bind_eq_some_iff.mp H
              obtain ⟨t171, A170, H⟩ := H
              replace H : ((ancepsref56_Check.f kj1 a0).bind fun t172 => (if t171 = t172 then (ancepslaw56_JournalFrame.j1 kj1 a0 t167 t168 t169 t170 (t168 != 0)) else (ancepslaw56_JournalFrame.j1 kj1 a0 t167 t168 t169 t170 true))) = some r := H
              have A17 := Aside0.mk A170
              clear A170
              replace H := Option.bind_eq_some_iff.mp H
              obtain ⟨t172, A180, H⟩ := H
              replace H : (if t171 = t172 then (ancepslaw56_JournalFrame.j1 kj1 a0 t167 t168 t169 t170 (t168 != 0)) else (ancepslaw56_JournalFrame.j1 kj1 a0 t167 t168 t169 t170 true)) = some r := H
              have A18 := Aside0.mk A180
              clear A180
              by_cases c19 : t171 = t172
              · rw [if_pos c19] at H
                have c19b0 : (t171 == t172) = true := beq_iff_eq.mpr c19
                have c19b1 : (t171 != t172) = false := bne_eq_false_iff_eq.mpr c19
                clear c19
                have H' := Aside0.mk H
                clear H
                go_wp2_with (first | (go_at_call 14; (with_reducible refine (journal_Check.calls kj1 a0 t171 _ A17.out).mono ?_); rintro e w' ⟨rfl, ⟨nd, rfl⟩⟩) | (go_at_call 15; (with_reducible refine (ancepsref56_Check.calls kj1 a0 t172 _ A18.out).mono ?_); rintro e w' ⟨rfl, ⟨nd, rfl⟩⟩))
                go_meet
                case rel => exact ⟨_, ((t168 != 0)), (by first | rfl | (simp; done) | (simp [*]; done)), H', ⟨by have := HJ1.out; first | omega | exact Nat.le_refl _⟩, ⟨by repeat (first | (with_reducible first | exact HB.out | apply below_alloc | apply pw_below_drewN | apply below_drew1) | exact HB.out)⟩⟩
              · rw [if_neg c19] at H
                have c19b0 : (t171 == t172) = false := beq_eq_false_iff_ne.mpr c19
                have c19b1 : (t171 != t172) = true := bne_iff_ne.mpr c19
                have H' := Aside0.mk H
                clear H
                go_wp2_with (first | (go_at_call 14; (with_reducible refine (journal_Check.calls kj1 a0 t171 _ A17.out).mono ?_); rintro e w' ⟨rfl, ⟨nd, rfl⟩⟩) | (go_at_call 15; (with_reducible refine (ancepsref56_Check.calls kj1 a0 t172 _ A18.out).mono ?_); rintro e w' ⟨rfl, ⟨nd, rfl⟩⟩))
                go_meet
                case rel => exact ⟨_, (true), (by first | rfl | (simp; done) | (simp [*]; done)), H', ⟨by have := HJ1.out; first | omega | exact Nat.le_refl _⟩, ⟨by repeat (first | (with_reducible first | exact HB.out | apply below_alloc | apply pw_below_drewN | apply below_drew1) | exact HB.out)⟩⟩
            · rw [if_neg c16] at H
              have c16b0 : (t168 == t170) = false := beq_eq_false_iff_ne.mpr c16
              have c16b1 : (t168 != t170) = true := bne_iff_ne.mpr c16
              have H' := Aside0.mk H
              clear H
              go_wp2
              go_meet
              case rel => exact ⟨_, (true), (by first | rfl | (simp; done) | (simp [*]; done)), H', ⟨by have := HJ1.out; first | omega | exact Nat.le_refl _⟩, ⟨by repeat (first | (with_reducible first | exact HB.out | apply below_alloc | apply pw_below_drewN | apply below_drew1) | exact HB.out)⟩⟩
          · rw [if_neg c15] at H
            have c15b0 : (t167.toList == t169.toList) = false := beq_eq_false_iff_ne.mpr c15
            have c15b1 : (t167.toList != t169.toList) = true := bne_iff_ne.mpr c15
            (first | rw [c15b0] | (simp only [i64_w, i32_w]; rw [c15b0]) | skip)
            have H' := Aside0.mk H
            clear H
            go_wp2
            go_meet
            case rel => exact ⟨_, (true), (by first | rfl | (simp; done) | (simp [*]; done)), H', ⟨by have := HJ1.out; first | omega | exact Nat.le_refl _⟩, ⟨by repeat (first | (with_reducible first | exact HB.out | apply below_alloc | apply pw_below_drewN | apply below_drew1) | exact HB.out)⟩⟩
        case rest =>
          clear HC12
          try clear c1
          try clear p2
          try clear c3
          try clear c4
          try clear p6
          try clear c7
          try clear c11
          try clear c12
          try clear c13
          try clear c15
          try clear c15b0
          try clear c15b1
          try clear c16
          try clear c16b0
          try clear c16b1
          try clear c19
          try clear c19b0
          try clear c19b1
          try clear p2
          try clear p6
          obtain ⟨kq, x45_11, rfl, HA, HJ11, HB⟩ := hcut
          cases kq with
          | zero => exact absurd HA.out (by simp [ancepslaw56_JournalFrame.j1])
          | succ kj11 =>
            have H := HA.out
            clear HA
            simp only [ancepslaw56_JournalFrame.j1] at H
            by_cases c20 : x45_11 = true
            · subst c20
              have H1 : (if t167.toList = t169.toList then (if t168 = t170 then ((journal_Check.f kj11 a0).bind fun t173 => ((ancepsref56_Check.f kj11 a0).bind fun t174 => (some (t173 == t174)))) else (some false)) else (some false)) = some r := by rw [if_pos rfl] at H; exact H
              clear H
              have H := H1
              clear H1
              by_cases c21 : t167.toList = t169.toList
              · rw [if_pos c21] at H
                have c21b0 : (t167.toList == t169.toList) = true := beq_iff_eq.mpr c21
                have c21b1 : (t167.toList != t169.toList) = false := bne_eq_false_iff_eq.mpr c21
                clear c21
                by_cases c22 : t168 = t170
                · rw [if_pos c22] at H
                  have c22b0 : (t168 == t170) = true := beq_iff_eq.mpr c22
                  have c22b1 : (t168 != t170) = false := bne_eq_false_iff_eq.mpr c22
                  clear c22
                  replace H := Option.bind_eq_some_iff.mp H
                  obtain ⟨t173, A230, H⟩ := H
                  replace H : ((ancepsref56_Check.f kj11 a0).bind fun t174 => (some (t173 == t174))) = some r := H
                  have A23 := Aside0.mk A230
                  clear A230
                  replace H := Option.bind_eq_some_iff.mp H
                  obtain ⟨t174, A240, H⟩ := H
                  replace H : (some (t173 == t174)) = some r := H
                  have A24 := Aside0.mk A240
                  clear A240
                  obtain rfl := Option.some.inj H
                  go_wp2_with (first | (go_at_call 14; (with_reducible refine (journal_Check.calls kj11 a0 t173 _ A23.out).mono ?_); rintro e w' ⟨rfl, ⟨nd, rfl⟩⟩) | (go_at_call 15; (with_reducible refine (ancepsref56_Check.calls kj11 a0 t174 _ A24.out).mono ?_); rintro e w' ⟨rfl, ⟨nd, rfl⟩⟩))
                  go_ret
                  exact ⟨by first | rfl | (simp [errW_none, errW_some] <;> rfl) | (simp [*, errW_none, errW_some] <;> rfl), by repeat (first | (with_reducible first | exact HB.out | apply below_alloc | apply pw_below_drewN | apply below_drew1) | exact HB.out)⟩
                · rw [if_neg c22] at H
                  have c22b0 : (t168 == t170) = false := beq_eq_false_iff_ne.mpr c22
                  have c22b1 : (t168 != t170) = true := bne_iff_ne.mpr c22
                  obtain rfl := Option.some.inj H
                  go_wp2
                  go_ret
                  exact ⟨by first | rfl | (simp [errW_none, errW_some] <;> rfl) | (simp [*, errW_none, errW_some] <;> rfl), by repeat (first | (with_reducible first | exact HB.out | apply below_alloc | apply pw_below_drewN | apply below_drew1) | exact HB.out)⟩
              · rw [if_neg c21] at H
                have c21b0 : (t167.toList == t169.toList) = false := beq_eq_false_iff_ne.mpr c21
                have c21b1 : (t167.toList != t169.toList) = true := bne_iff_ne.mpr c21
                obtain rfl := Option.some.inj H
                go_wp2
                go_ret
                exact ⟨by first | rfl | (simp [errW_none, errW_some] <;> rfl) | (simp [*, errW_none, errW_some] <;> rfl), by repeat (first | (with_reducible first | exact HB.out | apply below_alloc | apply pw_below_drewN | apply below_drew1) | exact HB.out)⟩
            · replace c20 := Bool.eq_false_iff.mpr c20
              subst c20
              have H1 : ((journal_Frames.f kj11 t167).bind fun bt175 => (if bt175.2 = (t167.size : Int) then ((slices_Equal_string_string.f kj11 bt175.1 (([a0] : List ByteArray))).bind fun t182 => (some t182)) else (some false))) = some r := by rw [if_neg (show ¬ (false = true) by decide)] at H; exact H
              clear H
              have H := H1
              clear H1
              replace H := Option.bind_eq_some_iff.mp H
              obtain ⟨⟨t175, t176⟩, A250, H⟩ := H
              replace H : (if t176 = (t167.size : Int) then ((slices_Equal_string_string.f kj11 t175 (([a0] : List ByteArray))).bind fun t182 => (some t182)) else (some false)) = some r := H
              have A25 := Aside0.mk A250
              clear A250
              by_cases c26 : t176 = (t167.size : Int)
              · rw [if_pos c26] at H
                have c26b0 : (t176 == (t167.size : Int)) = true := beq_iff_eq.mpr c26
                have c26b1 : (t176 != (t167.size : Int)) = false := bne_eq_false_iff_eq.mpr c26
                clear c26
                obtain ⟨y179, hy179⟩ : ∃ y_ : List ByteArray, y_ = (([a0] : List ByteArray)) := ⟨_, rfl⟩
                replace H : ((slices_Equal_string_string.f kj11 t175 y179).bind fun t182 => (some t182)) = some r := by first | (rw [hy179]; with_reducible exact H) | (have H2_ := (Option.bind_some _ _).symm.trans H; rw [hy179]; with_reducible exact H2_) | (have H2_ := (Option.bind_some _ _).symm.trans H; with_reducible exact H2_) | with_reducible exact H | (rw [hy179]; exact H) | exact H
                have Ny179 := Aside0.mk hy179
                clear hy179
                replace H := Option.bind_eq_some_iff.mp H
                obtain ⟨t182, A270, H⟩ := H
                replace H : (some t182) = some r := H
                have A27 := Aside0.mk A270
                clear A270
                obtain rfl := Option.some.inj H
                go_wp2_with (first | ((with_reducible refine gate_callee (f := 16) rfl ?_); refine goesL_ (some 63) rfl rfl Try.func16 (by kernel_rfl) rfl #[.string t167] rfl (by (try simp only [List.map_toArray, List.map_cons, List.map_nil]); first | done | rfl | (simp only [List.length_drop, List.length_take]; rfl) | (simp only [decide_eq_true_eq, decide_eq_false_iff_not] at *; congr <;> (first | rfl | (refine (congrArg (Value.int .i64) ?_ : Value.int .i64 _ = Value.int .i64 _); unfold wrap64; omega) | fail)) | fail) ?_; (with_reducible refine (journal_Frames.calls kj11 t167 t175 t176 _ A25.out).mono ?_); rintro e w28 ⟨v177, rfl, ho0, hb⟩; refine ⟨_, rfl, ?_⟩; have n0_ := Aside0.mk (Kd.R_lower ho0 (below_size (by repeat (first | (with_reducible first | exact HB.out | apply below_alloc | apply pw_below_drewN | apply below_drew1) | exact HB.out)))); have n1_ := Aside0.mk (below_step (by repeat (first | (with_reducible first | exact HB.out | apply below_alloc | apply pw_below_drewN | apply below_drew1) | exact HB.out)) hb); clear HB; have HO178 := n0_; have HB := n1_; clear n0_ n1_; (try clear hb); (try clear hb2); (try clear hk); (try clear hi); (try clear ho0)) | ((with_reducible refine gate_dst (N := 73) rfl ?_); (try (refine gate_guard (by rfl) ?_; dsimp only)); refine Kd.R_lit Kd.string _ 9 ?hg (N := 73) ?hd (xs := ([a0] : List ByteArray)) (inner := [.string a0]) (ok := fun _ => True) (okp := fun _ => True) ?hr ?hp (fun _ hk => hk) trivial (Below.refl _ _) (Nat.le_refl _) (by simp) ?_; (case hd => rfl); (case hg => rfl); (case hr => first | (go_simp; done) | (go_simp; rfl)); (case hp => exact (Reps.one (show Kd.M Kd.string _ _ _ a0 [.string a0] from rfl) (Reps.none _ _))); intro v180 w29 ho30 hb hg_ hnew_; clear hg_ hnew_; (first | rw [← Ny179.out] at ho30 | (simp only [Int.reduceToNat] at ho30; rw [← Ny179.out] at ho30)); have n0_ := Aside0.mk (Kd.R_elder' (by (with_reducible repeat (first | apply Kd.R_alloc | apply Kd.R_drewN | apply Kd.R_drew)); exact HO178.out) (Kd.R_base ho30) hb); have n1_ := Aside0.mk (Kd.R_lower (Kd.R_new' ho30 (Kd.R_lt (by (with_reducible repeat (first | apply Kd.R_alloc | apply Kd.R_drewN | apply Kd.R_drew)); exact HO178.out))) (below_size (by repeat (first | (with_reducible first | exact HB.out | apply below_alloc | apply pw_below_drewN | apply below_drew1) | exact HB.out)))); have n2_ := Aside0.mk (below_step (by repeat (first | (with_reducible first | exact HB.out | apply below_alloc | apply pw_below_drewN | apply below_drew1) | exact HB.out)) hb); clear HO178; clear HB; have HO178 := n0_; have HO181 := n1_; have HB := n2_; clear n0_ n1_ n2_; clear hb ho30; obtain ⟨Ao31, co31, eo31⟩ := Kd.R_slice HO178.out; subst eo31; obtain ⟨Ao32, co32, eo32⟩ := Kd.R_slice HO181.out; subst eo32) | (go_at_call 17; (with_reducible refine (slices_Equal_string_string.calls kj11 _ _ t175 _ _ y179 t182 _ ?side1 ?side2 ?side3 ?side4 A27.out).mono ?_); (case side1 => repeat (first | exact (Kd.R_reads' HO178.out).2.2 | (with_reducible refine Kd.C_alloc ?_ _) | (with_reducible refine Kd.C_drewN ?_ _) | (with_reducible refine Kd.C_drew ?_))); (case side2 => exact (Kd.R_reads' HO178.out).2.1); (case side3 => repeat (first | exact (Kd.R_reads' HO181.out).2.2 | (with_reducible refine Kd.C_alloc ?_ _) | (with_reducible refine Kd.C_drewN ?_ _) | (with_reducible refine Kd.C_drew ?_))); (case side4 => exact (Kd.R_reads' HO181.out).2.1); rintro e w' ⟨rfl, ⟨nd, rfl⟩⟩))
                go_ret
                exact ⟨by first | rfl | (simp [errW_none, errW_some] <;> rfl) | (simp [*, errW_none, errW_some] <;> rfl), by repeat (first | (with_reducible first | exact HB.out | apply below_alloc | apply pw_below_drewN | apply below_drew1) | exact HB.out)⟩
              · rw [if_neg c26] at H
                have c26b0 : (t176 == (t167.size : Int)) = false := beq_eq_false_iff_ne.mpr c26
                have c26b1 : (t176 != (t167.size : Int)) = true := bne_iff_ne.mpr c26
                obtain rfl := Option.some.inj H
                go_wp2_with (first | ((with_reducible refine gate_callee (f := 16) rfl ?_); refine goesL_ (some 63) rfl rfl Try.func16 (by kernel_rfl) rfl #[.string t167] rfl (by (try simp only [List.map_toArray, List.map_cons, List.map_nil]); first | done | rfl | (simp only [List.length_drop, List.length_take]; rfl) | (simp only [decide_eq_true_eq, decide_eq_false_iff_not] at *; congr <;> (first | rfl | (refine (congrArg (Value.int .i64) ?_ : Value.int .i64 _ = Value.int .i64 _); unfold wrap64; omega) | fail)) | fail) ?_; (with_reducible refine (journal_Frames.calls kj11 t167 t175 t176 _ A25.out).mono ?_); rintro e w33 ⟨v177, rfl, ho0, hb⟩; refine ⟨_, rfl, ?_⟩; have n0_ := Aside0.mk (Kd.R_lower ho0 (below_size (by repeat (first | (with_reducible first | exact HB.out | apply below_alloc | apply pw_below_drewN | apply below_drew1) | exact HB.out)))); have n1_ := Aside0.mk (below_step (by repeat (first | (with_reducible first | exact HB.out | apply below_alloc | apply pw_below_drewN | apply below_drew1) | exact HB.out)) hb); clear HB; have HO178 := n0_; have HB := n1_; clear n0_ n1_; (try clear hb); (try clear hb2); (try clear hk); (try clear hi); (try clear ho0)))
                go_ret
                exact ⟨by first | rfl | (simp [errW_none, errW_some] <;> rfl) | (simp [*, errW_none, errW_some] <;> rfl), by repeat (first | (with_reducible first | exact HB.out | apply below_alloc | apply pw_below_drewN | apply below_drew1) | exact HB.out)⟩

/-- THE ONE PURE STATEMENT of ancepslaw56_JournalFrame: yours. -/
def ancepslaw56_JournalFrame.Pure : Prop := ∀ (a0 : ByteArray), a0.size ≤ 140737488351232 → ∃ k, ancepslaw56_JournalFrame.f k a0 = some true
theorem ancepslaw56_JournalFrame.walk (P : ancepslaw56_JournalFrame.Pure) (a0 : ByteArray) (w : World) (w0 : a0.size ≤ 140737488351232) :
    Calls Try.prog 3 #[.string a0] w fun e w' => e = .returned (.bool true) ∧ Below w.heap.size w w' := by
  obtain ⟨k, h⟩ := P a0 w0
  refine (ancepslaw56_JournalFrame.calls k a0 true w h).mono ?_
  rintro e w' ⟨rfl, hd⟩
  exact ⟨rfl, hd⟩

/-! ### ancepsref56_value: function 39 -/
def ancepsref56_value.l0 : Nat → ByteArray → Int → Int → Option (Int)
  | 0, _, _, _ => none
  | k + 1, x0, x3, x4 => if x4 < (x0.size : Int) then (if 0 ≤ x4 then (ancepsref56_value.l0 k x0 (wrap64 ((wrap64 (x3 * 256)) + (wrap64 (bt x0 x4)))) (wrap64 (x4 + 1))) else (none)) else (some x3)
def ancepsref56_value.f (k : Nat) (a0 : ByteArray) : Option (Int) := ancepsref56_value.l0 k a0 0 0
theorem ancepsref56_value.mono_l : ∀ k, (∀ y0 y1 y2, LeO (ancepsref56_value.l0 k y0 y1 y2) (ancepsref56_value.l0 (k + 1) y0 y1 y2))
  | 0 => fun _ _ _ r h => by simp [ancepsref56_value.l0] at h
  | k + 1 => by
    have ih0 := ancepsref56_value.mono_l k
    · intro y0 y1 y2
      unfold ancepsref56_value.l0
      repeat' first
      | (with_reducible exact ih0 _ _ _)
      | (with_reducible exact LeO.refl _)
      | (with_reducible exact LeO.none _)
      | (with_reducible refine LeO.ite ?_ ?_)
      | (with_reducible refine LeO.bind ?_ (fun _ => ?_))
      | exact ih0 _ _ _
      | exact LeO.none _
      | refine LeO.ite ?_ ?_
      | refine LeO.bind ?_ (fun _ => ?_)
theorem ancepsref56_value.mono : ∀ a0 k, LeO (ancepsref56_value.f k a0) (ancepsref56_value.f (k + 1) a0) := by
  intro a0 k
  have ih0 := ancepsref56_value.mono_l k
  unfold ancepsref56_value.f
  repeat' first
      | (with_reducible exact ih0 _ _ _)
      | (with_reducible exact LeO.refl _)
      | (with_reducible exact LeO.none _)
      | (with_reducible refine LeO.ite ?_ ?_)
      | (with_reducible refine LeO.bind ?_ (fun _ => ?_))
      | exact ih0 _ _ _
      | exact LeO.none _
      | refine LeO.ite ?_ ?_
      | refine LeO.bind ?_ (fun _ => ?_)
set_option maxHeartbeats 8000000 in
set_option maxRecDepth 100000 in
theorem ancepsref56_value.calls (k : Nat) (a0 : ByteArray) (r : Int) (w : World) (h : ancepsref56_value.f k a0 = some r) :
    Calls Try.prog 39 #[.string a0] w fun e w' => e = .returned (.int .i64 r) ∧ Drawn0 w w' := by
  have H : (ancepsref56_value.l0 k a0 0 0) = some r := h
  clear h
  have H' := Aside0.mk H
  clear H
  go_enter Try.func39, Try.ntmps39
  go_wp2
  go_loopg [3, 4] k (fun kq v3 v4 w' => ∃ (x3_1 : Int) (x4_1 : Int), v3 = .int .i64 x3_1 ∧ v4 = .int .i64 x4_1 ∧ Aside0 (ancepsref56_value.l0 kq a0 x3_1 x4_1 = some r) ∧ Aside0 (kq ≤ k) ∧ Drawn0 w w')
  case atStart => exact ⟨(0), (0), (by first | rfl | (simp; done) | (simp [*]; done)), (by first | rfl | (simp; done) | (simp [*]; done)), H', ⟨Nat.le_refl _⟩, by repeat (first | exact Drawn0.refl _ | apply Drawn0.step)⟩
  case round =>
    clear H'
    obtain ⟨x3_1, x4_1, rfl, rfl, HA, HK1, ⟨m1, rfl⟩⟩ := hrel
    cases gk with
    | zero => exact absurd HA.out (by simp [ancepsref56_value.l0])
    | succ k1 =>
      have H := HA.out
      clear HA
      simp only [ancepsref56_value.l0] at H
      by_cases c2 : x4_1 < (a0.size : Int)
      · rw [if_pos c2] at H
        have c2b0 : decide (x4_1 < (a0.size : Int)) = true := decide_eq_true c2
        clear c2
        by_cases c3 : 0 ≤ x4_1
        · rw [if_pos c3] at H
          have c3b0 : decide (0 ≤ x4_1) = true := decide_eq_true c3
          clear c3
          have H' := Aside0.mk H
          clear H
          have p4 : 0 ≤ (x4_1 : Int) := of_decide_eq_true (by first | (with_reducible assumption) | assumption)
          have q4 : x4_1 < (a0.size : Int) := of_decide_eq_true (by first | (with_reducible assumption) | assumption)
          have hx4 := bt_at a0 x4_1
          replace p4 := eq_true p4
          replace q4 := eq_true q4
          go_wp2
          go_roundg k1
          case measure => have := HK1.out; omega
          case rel => exact ⟨(wrap64 ((wrap64 (x3_1 * 256)) + (wrap64 (bt a0 x4_1)))), (wrap64 (x4_1 + 1)), (by first | rfl | (simp; done) | (simp [*]; done)), (by first | rfl | (simp; done) | (simp [*]; done)), H', ⟨by have := HK1.out; omega⟩, by repeat (first | exact Drawn0.refl _ | apply Drawn0.step)⟩
        · rw [if_neg c3] at H
          exact absurd H (by simp)
      · rw [if_neg c2] at H
        have c2b0 : decide (x4_1 < (a0.size : Int)) = false := decide_eq_false c2
        clear c2
        obtain rfl := Option.some.inj H
        go_wp2
        go_ret
        exact ⟨by first | rfl | (simp; done) | (simp [*]; done), by repeat (first | exact Drawn0.refl _ | apply Drawn0.step)⟩

/-! ### ancepsref56_first: function 37 -/
def ancepsref56_first.j0 : Nat → ByteArray → Int → Bool → Option (ByteArray × Bool)
  | 0, _, _, _ => none
  | k + 1, x0, x4, x28 => if x28 = true then (some ((⟨#[]⟩ : ByteArray), false)) else (if 8 ≤ (wrap64 (8 + x4)) then (if (wrap64 (8 + x4)) ≤ (x0.size : Int) then (if 4 ≤ 8 then (if 8 ≤ (x0.size : Int) then ((ancepsref56_value.f k (x0.extract 4 8)).bind fun t185 => ((ancepsref56_Check.f k (x0.extract 8 ((wrap64 (8 + x4)) : Int).toNat)).bind fun t186 => (some (x0.extract 8 ((wrap64 (8 + x4)) : Int).toNat, (t185 == t186))))) else (none)) else (none)) else (none)) else (none))
def ancepsref56_first.f (k : Nat) (a0 : ByteArray) : Option (ByteArray × Bool) := if (a0.size : Int) < 8 then (some ((⟨#[]⟩ : ByteArray), false)) else (if 0 ≤ 2 then (if 2 ≤ (a0.size : Int) then ((ancepsref56_value.f k (a0.extract 0 2)).bind fun t183 => (if t183 > 400 then (ancepsref56_first.j0 k a0 t183 true) else (if 2 ≤ 4 then (if 4 ≤ (a0.size : Int) then ((ancepsref56_value.f k (a0.extract 2 4)).bind fun t184 => (if t184 = (wrap64 (65535 - t183)) then (ancepsref56_first.j0 k a0 t183 (decide ((a0.size : Int) < (wrap64 (8 + t183))))) else (ancepsref56_first.j0 k a0 t183 true))) else (none)) else (none)))) else (none)) else (none))
theorem ancepsref56_first.mono_l : ∀ k, (∀ y0 y1 y2, LeO (ancepsref56_first.j0 k y0 y1 y2) (ancepsref56_first.j0 (k + 1) y0 y1 y2))
  | 0 => fun _ _ _ r h => by simp [ancepsref56_first.j0] at h
  | k + 1 => by
    have ih0 := ancepsref56_first.mono_l k
    · intro y0 y1 y2
      unfold ancepsref56_first.j0
      repeat' first
      | (with_reducible exact ih0 _ _ _)
      | (with_reducible exact ancepsref56_Check.mono _ _)
      | (with_reducible exact ancepsref56_value.mono _ _)
      | (with_reducible exact LeO.refl _)
      | (with_reducible exact LeO.none _)
      | (with_reducible refine LeO.ite ?_ ?_)
      | (with_reducible refine LeO.bind ?_ (fun _ => ?_))
      | exact ih0 _ _ _
      | exact ancepsref56_Check.mono _ _
      | exact ancepsref56_value.mono _ _
      | exact LeO.none _
      | refine LeO.ite ?_ ?_
      | refine LeO.bind ?_ (fun _ => ?_)
theorem ancepsref56_first.mono : ∀ a0 k, LeO (ancepsref56_first.f k a0) (ancepsref56_first.f (k + 1) a0) := by
  intro a0 k
  have ih0 := ancepsref56_first.mono_l k
  unfold ancepsref56_first.f
  repeat' first
      | (with_reducible exact ih0 _ _ _)
      | (with_reducible exact ancepsref56_Check.mono _ _)
      | (with_reducible exact ancepsref56_value.mono _ _)
      | (with_reducible exact LeO.refl _)
      | (with_reducible exact LeO.none _)
      | (with_reducible refine LeO.ite ?_ ?_)
      | (with_reducible refine LeO.bind ?_ (fun _ => ?_))
      | exact ih0 _ _ _
      | exact ancepsref56_Check.mono _ _
      | exact ancepsref56_value.mono _ _
      | exact LeO.none _
      | refine LeO.ite ?_ ?_
      | refine LeO.bind ?_ (fun _ => ?_)
set_option maxHeartbeats 8000000 in
set_option maxRecDepth 100000 in
theorem ancepsref56_first.calls (k : Nat) (a0 : ByteArray) (r1 : ByteArray) (r2 : Bool) (w : World) (h : ancepsref56_first.f k a0 = some (r1, r2)) :
    Calls Try.prog 37 #[.string a0] w fun e w' => e = .returned (.tuple #[.string r1, .bool r2]) ∧ Drawn0 w w' := by
  have H : (if (a0.size : Int) < 8 then (some ((⟨#[]⟩ : ByteArray), false)) else (if 0 ≤ 2 then (if 2 ≤ (a0.size : Int) then ((ancepsref56_value.f k (a0.extract 0 2)).bind fun t183 => (if t183 > 400 then (ancepsref56_first.j0 k a0 t183 true) else (if 2 ≤ 4 then (if 4 ≤ (a0.size : Int) then ((ancepsref56_value.f k (a0.extract 2 4)).bind fun t184 => (if t184 = (wrap64 (65535 - t183)) then (ancepsref56_first.j0 k a0 t183 (decide ((a0.size : Int) < (wrap64 (8 + t183))))) else (ancepsref56_first.j0 k a0 t183 true))) else (none)) else (none)))) else (none)) else (none))) = some (r1, r2) := h
  clear h
  by_cases c2 : (a0.size : Int) < 8
  · rw [if_pos c2] at H
    have c2b0 : decide ((a0.size : Int) < 8) = true := decide_eq_true c2
    have c2b1 : decide (a0.size < 8) = true := decide_eq_true (by omega)
    clear c2
    simp only [Option.some.injEq, Prod.mk.injEq] at H
    obtain ⟨rfl, rfl⟩ := H
    go_enter Try.func37, Try.ntmps37
    go_wp2
    go_ret2
    exact ⟨by first | rfl | (simp; done) | (simp [*]; done), by repeat (first | exact Drawn0.refl _ | apply Drawn0.step)⟩
  · rw [if_neg c2] at H
    have c2b0 : decide ((a0.size : Int) < 8) = false := decide_eq_false c2
    have c2b1 : decide (a0.size < 8) = false := decide_eq_false (by omega)
    clear c2
    by_cases c3 : 0 ≤ 2
    · rw [if_pos c3] at H
      have c3b0 := eq_true c3
      have c3b1 : decide (0 ≤ 2) = true := decide_eq_true c3
      clear c3
      by_cases c4 : 2 ≤ (a0.size : Int)
      · rw [if_pos c4] at H
        have c4b0 := eq_true c4
        have c4b1 : decide (2 ≤ (a0.size : Int)) = true := decide_eq_true c4
        clear c4
        replace H := Option.bind_eq_some_iff.mp H
        obtain ⟨t183, A50, H⟩ := H
        replace H : (if t183 > 400 then (ancepsref56_first.j0 k a0 t183 true) else (if 2 ≤ 4 then (if 4 ≤ (a0.size : Int) then ((ancepsref56_value.f k (a0.extract 2 4)).bind fun t184 => (if t184 = (wrap64 (65535 - t183)) then (ancepsref56_first.j0 k a0 t183 (decide ((a0.size : Int) < (wrap64 (8 + t183))))) else (ancepsref56_first.j0 k a0 t183 true))) else (none)) else (none))) = some (r1, r2) := H
        have A5 := Aside0.mk A50
        clear A50
        have HC6 := Aside0.mk H
        clear H
        go_enter Try.func37, Try.ntmps37
        go_upto_region 4 with (first | ((with_reducible refine gate_callee (f := 39) rfl ?_); refine goesL_ (some 11) rfl rfl Try.func39 (by kernel_rfl) rfl #[.string (a0.extract 0 2)] rfl (by (try simp only [List.map_toArray, List.map_cons, List.map_nil]); first | done | rfl | (simp only [List.length_drop, List.length_take]; rfl) | (simp only [decide_eq_true_eq, decide_eq_false_iff_not] at *; congr <;> (first | rfl | (refine (congrArg (Value.int .i64) ?_ : Value.int .i64 _ = Value.int .i64 _); unfold wrap64; omega) | fail)) | fail) ?_; (with_reducible refine (ancepsref56_value.calls k (a0.extract 0 2) t183 _ A5.out).mono ?_); rintro e w' ⟨rfl, ⟨nd, rfl⟩⟩; refine ⟨_, rfl, ?_⟩))
        (try simp only [Act.put, List.setIfInBounds_toArray, List.set_cons_zero, List.set_cons_succ])
        go_cut [28] (fun v28 wc => ∃ (kq : Nat) (x28_5 : Bool), v28 = .bool x28_5 ∧ Aside0 (ancepsref56_first.j0 kq a0 t183 x28_5 = some (r1, r2)) ∧ Aside0 (kq ≤ k) ∧ Drawn0 w wc)
        case first =>
          have H := HC6.out
          clear HC6
          by_cases c7 : t183 > 400
          · rw [if_pos c7] at H
            have c7b0 : decide (400 < t183) = true := decide_eq_true c7
            clear c7
            (first | rw [c7b0] | (simp only [i64_w, i32_w]; rw [c7b0]) | skip)
            have H' := Aside0.mk H
            clear H
            go_wp2
            go_meet
            case rel => exact ⟨_, (true), (by first | rfl | (simp; done) | (simp [*]; done)), H', ⟨by first | omega | exact Nat.le_refl _⟩, by repeat (first | exact Drawn0.refl _ | apply Drawn0.step)⟩
          · rw [if_neg c7] at H
            have c7b0 : decide (400 < t183) = false := decide_eq_false c7
            clear c7
            (first | rw [c7b0] | (simp only [i64_w, i32_w]; rw [c7b0]) | skip)
            by_cases c8 : 2 ≤ 4
            · rw [if_pos c8] at H
              have c8b0 := eq_true c8
              have c8b1 : decide (2 ≤ 4) = true := decide_eq_true c8
              clear c8
              by_cases c9 : 4 ≤ (a0.size : Int)
              · rw [if_pos c9] at H
                have c9b0 := eq_true c9
                have c9b1 : decide (4 ≤ (a0.size : Int)) = true := decide_eq_true c9
                clear c9
                replace H := Option.bind_eq_some_iff.mp H
                obtain ⟨t184, A100, H⟩ := H
                replace H : (if t184 = (wrap64 (65535 - t183)) then (ancepsref56_first.j0 k a0 t183 (decide ((a0.size : Int) < (wrap64 (8 + t183))))) else (ancepsref56_first.j0 k a0 t183 true)) = some (r1, r2) := H
                have A10 := Aside0.mk A100
                clear A100
                by_cases c11 : t184 = (wrap64 (65535 - t183))
                · rw [if_pos c11] at H
                  have c11b0 : (t184 == (wrap64 (65535 - t183))) = true := beq_iff_eq.mpr c11
                  have c11b1 : (t184 != (wrap64 (65535 - t183))) = false := bne_eq_false_iff_eq.mpr c11
                  clear c11
                  have H' := Aside0.mk H
                  clear H
                  go_wp2_with (first | (go_at_call 39; (with_reducible refine (ancepsref56_value.calls k (a0.extract 2 4) t184 _ A10.out).mono ?_); rintro e w' ⟨rfl, ⟨nd, rfl⟩⟩))
                  go_meet
                  case rel => exact ⟨_, (decide ((a0.size : Int) < (wrap64 (8 + t183)))), (by first | rfl | (simp; done) | (simp [*]; done)), H', ⟨by first | omega | exact Nat.le_refl _⟩, by repeat (first | exact Drawn0.refl _ | apply Drawn0.step)⟩
                · rw [if_neg c11] at H
                  have c11b0 : (t184 == (wrap64 (65535 - t183))) = false := beq_eq_false_iff_ne.mpr c11
                  have c11b1 : (t184 != (wrap64 (65535 - t183))) = true := bne_iff_ne.mpr c11
                  have H' := Aside0.mk H
                  clear H
                  go_wp2_with (first | (go_at_call 39; (with_reducible refine (ancepsref56_value.calls k (a0.extract 2 4) t184 _ A10.out).mono ?_); rintro e w' ⟨rfl, ⟨nd, rfl⟩⟩))
                  go_meet
                  case rel => exact ⟨_, (true), (by first | rfl | (simp; done) | (simp [*]; done)), H', ⟨by first | omega | exact Nat.le_refl _⟩, by repeat (first | exact Drawn0.refl _ | apply Drawn0.step)⟩
              · rw [if_neg c9] at H
                exact absurd H (by simp)
            · rw [if_neg c8] at H
              exact absurd H (by simp)
        case rest =>
          clear HC6
          try clear c1
          try clear c2
          try clear c2b0
          try clear c2b1
          try clear p2
          try clear c3
          try clear c3b0
          try clear c3b1
          try clear c4
          try clear c4b0
          try clear c4b1
          try clear p6
          try clear c7
          try clear c7b0
          try clear c8
          try clear c8b0
          try clear c8b1
          try clear c9
          try clear c9b0
          try clear c9b1
          try clear c11
          try clear c11b0
          try clear c11b1
          obtain ⟨kq, x28_5, rfl, HA, HJ5, ⟨mc5, rfl⟩⟩ := hcut
          cases kq with
          | zero => exact absurd HA.out (by simp [ancepsref56_first.j0])
          | succ kj5 =>
            have H := HA.out
            clear HA
            simp only [ancepsref56_first.j0] at H
            by_cases c12 : x28_5 = true
            · subst c12
              have H1 : (some ((⟨#[]⟩ : ByteArray), false)) = some (r1, r2) := by rw [if_pos rfl] at H; exact H
              clear H
              have H := H1
              clear H1
              simp only [Option.some.injEq, Prod.mk.injEq] at H
              obtain ⟨rfl, rfl⟩ := H
              go_wp2
              go_ret2
              exact ⟨by first | rfl | (simp; done) | (simp [*]; done), by repeat (first | exact Drawn0.refl _ | apply Drawn0.step)⟩
            · replace c12 := Bool.eq_false_iff.mpr c12
              subst c12
              have H1 : (if 8 ≤ (wrap64 (8 + t183)) then (if (wrap64 (8 + t183)) ≤ (a0.size : Int) then (if 4 ≤ 8 then (if 8 ≤ (a0.size : Int) then ((ancepsref56_value.f kj5 (a0.extract 4 8)).bind fun t185 => ((ancepsref56_Check.f kj5 (a0.extract 8 ((wrap64 (8 + t183)) : Int).toNat)).bind fun t186 => (some (a0.extract 8 ((wrap64 (8 + t183)) : Int).toNat, (t185 == t186))))) else (none)) else (none)) else (none)) else (none)) = some (r1, r2) := by rw [if_neg (show ¬ (false = true) by decide)] at H; exact H
              clear H
              have H := H1
              clear H1
              by_cases c13 : 8 ≤ (wrap64 (8 + t183))
              · rw [if_pos c13] at H
                have c13b0 := eq_true c13
                have c13b1 : decide (8 ≤ (wrap64 (8 + t183))) = true := decide_eq_true c13
                by_cases c14 : (wrap64 (8 + t183)) ≤ (a0.size : Int)
                · rw [if_pos c14] at H
                  have c14b0 := eq_true c14
                  have c14b1 : decide ((wrap64 (8 + t183)) ≤ (a0.size : Int)) = true := decide_eq_true c14
                  by_cases c15 : 4 ≤ 8
                  · rw [if_pos c15] at H
                    have c15b0 := eq_true c15
                    have c15b1 : decide (4 ≤ 8) = true := decide_eq_true c15
                    clear c15
                    by_cases c16 : 8 ≤ (a0.size : Int)
                    · rw [if_pos c16] at H
                      have c16b0 := eq_true c16
                      have c16b1 : decide (8 ≤ (a0.size : Int)) = true := decide_eq_true c16
                      clear c16
                      replace H := Option.bind_eq_some_iff.mp H
                      obtain ⟨t185, A170, H⟩ := H
                      replace H : ((ancepsref56_Check.f kj5 (a0.extract 8 ((wrap64 (8 + t183)) : Int).toNat)).bind fun t186 => (some (a0.extract 8 ((wrap64 (8 + t183)) : Int).toNat, (t185 == t186)))) = some (r1, r2) := H
                      have A17 := Aside0.mk A170
                      clear A170
                      replace H := Option.bind_eq_some_iff.mp H
                      obtain ⟨t186, A180, H⟩ := H
                      replace H : (some (a0.extract 8 ((wrap64 (8 + t183)) : Int).toNat, (t185 == t186))) = some (r1, r2) := H
                      have A18 := Aside0.mk A180
                      clear A180
                      simp only [Option.some.injEq, Prod.mk.injEq] at H
                      obtain ⟨rfl, rfl⟩ := H
                      go_wp2_with (first | ((with_reducible refine gate_callee (f := 39) rfl ?_); refine goesL_ (some 36) rfl rfl Try.func39 (by kernel_rfl) rfl #[.string (a0.extract 4 8)] rfl (by (try simp only [List.map_toArray, List.map_cons, List.map_nil]); first | done | rfl | (simp only [List.length_drop, List.length_take]; rfl) | (simp only [decide_eq_true_eq, decide_eq_false_iff_not] at *; congr <;> (first | rfl | (refine (congrArg (Value.int .i64) ?_ : Value.int .i64 _ = Value.int .i64 _); unfold wrap64; omega) | fail)) | fail) ?_; (with_reducible refine (ancepsref56_value.calls kj5 (a0.extract 4 8) t185 _ A17.out).mono ?_); rintro e w' ⟨rfl, ⟨nd, rfl⟩⟩; refine ⟨_, rfl, ?_⟩) | ((with_reducible refine gate_callee (f := 15) rfl ?_); refine goesL_ (some 38) rfl rfl Try.func15 (by kernel_rfl) rfl #[.string (a0.extract 8 ((wrap64 (8 + t183)) : Int).toNat)] rfl (by (try simp only [List.map_toArray, List.map_cons, List.map_nil]); first | done | rfl | (simp only [List.length_drop, List.length_take]; rfl) | (simp only [decide_eq_true_eq, decide_eq_false_iff_not] at *; congr <;> (first | rfl | (refine (congrArg (Value.int .i64) ?_ : Value.int .i64 _ = Value.int .i64 _); unfold wrap64; omega) | fail)) | fail) ?_; (with_reducible refine (ancepsref56_Check.calls kj5 (a0.extract 8 ((wrap64 (8 + t183)) : Int).toNat) t186 _ A18.out).mono ?_); rintro e w' ⟨rfl, ⟨nd, rfl⟩⟩; refine ⟨_, rfl, ?_⟩))
                      go_ret2
                      exact ⟨by first | rfl | (simp; done) | (simp [*]; done), by repeat (first | exact Drawn0.refl _ | apply Drawn0.step)⟩
                    · rw [if_neg c16] at H
                      exact absurd H (by simp)
                  · rw [if_neg c15] at H
                    exact absurd H (by simp)
                · rw [if_neg c14] at H
                  exact absurd H (by simp)
              · rw [if_neg c13] at H
                exact absurd H (by simp)
      · rw [if_neg c4] at H
        exact absurd H (by simp)
    · rw [if_neg c3] at H
      exact absurd H (by simp)

/-! ### ancepsref56_Frames: function 18 -/
def ancepsref56_Frames.l0 : Nat → ByteArray → List ByteArray → Int → Option (List ByteArray × Int)
  | 0, _, _, _ => none
  | k + 1, x0, x4, x5 => if 0 ≤ x5 then (if x5 ≤ (x0.size : Int) then ((ancepsref56_first.f k (x0.extract (x5 : Int).toNat x0.size)).bind fun bt187 => (if bt187.2 = true then (if x4.length < 8796093022208 then (ancepsref56_Frames.l0 k x0 (x4 ++ [bt187.1]) (wrap64 ((wrap64 (x5 + 8)) + (bt187.1.size : Int)))) else (none)) else (some (x4, x5)))) else (none)) else (none)
def ancepsref56_Frames.f (k : Nat) (a0 : ByteArray) : Option (List ByteArray × Int) := ancepsref56_Frames.l0 k a0 ([] : List ByteArray) 0
theorem ancepsref56_Frames.mono_l : ∀ k, (∀ y0 y1 y2, LeO (ancepsref56_Frames.l0 k y0 y1 y2) (ancepsref56_Frames.l0 (k + 1) y0 y1 y2))
  | 0 => fun _ _ _ r h => by simp [ancepsref56_Frames.l0] at h
  | k + 1 => by
    have ih0 := ancepsref56_Frames.mono_l k
    · intro y0 y1 y2
      unfold ancepsref56_Frames.l0
      repeat' first
      | (with_reducible exact ih0 _ _ _)
      | (with_reducible exact ancepsref56_first.mono _ _)
      | (with_reducible exact LeO.refl _)
      | (with_reducible exact LeO.none _)
      | (with_reducible refine LeO.ite ?_ ?_)
      | (with_reducible refine LeO.bind ?_ (fun _ => ?_))
      | exact ih0 _ _ _
      | exact ancepsref56_first.mono _ _
      | exact LeO.none _
      | refine LeO.ite ?_ ?_
      | refine LeO.bind ?_ (fun _ => ?_)
theorem ancepsref56_Frames.mono : ∀ a0 k, LeO (ancepsref56_Frames.f k a0) (ancepsref56_Frames.f (k + 1) a0) := by
  intro a0 k
  have ih0 := ancepsref56_Frames.mono_l k
  unfold ancepsref56_Frames.f
  repeat' first
      | (with_reducible exact ih0 _ _ _)
      | (with_reducible exact ancepsref56_first.mono _ _)
      | (with_reducible exact LeO.refl _)
      | (with_reducible exact LeO.none _)
      | (with_reducible refine LeO.ite ?_ ?_)
      | (with_reducible refine LeO.bind ?_ (fun _ => ?_))
      | exact ih0 _ _ _
      | exact ancepsref56_first.mono _ _
      | exact LeO.none _
      | refine LeO.ite ?_ ?_
      | refine LeO.bind ?_ (fun _ => ?_)
set_option maxHeartbeats 8000000 in
set_option maxRecDepth 100000 in
theorem ancepsref56_Frames.calls (k : Nat) (a0 : ByteArray) (r1 : List ByteArray) (r2 : Int) (w : World) (h : ancepsref56_Frames.f k a0 = some (r1, r2)) :
    Calls Try.prog 18 #[.string a0] w fun e w' => ∃ v0_ : Value, e = .returned (.tuple #[v0_, .int .i64 r2]) ∧ Kd.R Kd.string 9 w' w.heap.size (fun _ => True) v0_ r1 ∧ Below w.heap.size w w' := by
  have HB := Aside0.mk (Below.refl w.heap.size w)
  have H : (ancepsref56_Frames.l0 k a0 ([] : List ByteArray) 0) = some (r1, r2) := h
  clear h
  have H' := Aside0.mk H
  clear H
  go_enter Try.func18, Try.ntmps18
  go_wp2
  go_loopg [4, 5] k (fun kq v4 v5 w' => ∃ (x4_1 : List ByteArray) (x5_1 : Int), v5 = .int .i64 x5_1 ∧ Aside0 (ancepsref56_Frames.l0 kq a0 x4_1 x5_1 = some (r1, r2)) ∧ Aside0 (kq ≤ k) ∧ Aside0 (Kd.R Kd.string 9 w' w.heap.size (fun _ => True) v4 x4_1) ∧ Aside0 (Below w.heap.size w w'))
  case atStart => exact ⟨(([] : List ByteArray)), (0), (by first | rfl | (simp; done) | (simp [*]; done)), H', ⟨Nat.le_refl _⟩, ⟨by first | exact Kd.R_nil _ _ _ _ _ | exact Kd.N_nil _ _ _ _ _ | exact Kd.V_nil _ _ _ _ _ | exact Kd.Q_nil _ _ _ _ _ | exact Kd.S_nil _ _ _ _ _⟩, ⟨by repeat (first | (with_reducible first | exact HB.out | apply below_alloc | apply pw_below_drewN | apply below_drew1) | exact HB.out)⟩⟩
  case round =>
    clear H'
    try clear c1
    obtain ⟨x4_1, x5_1, rfl, HA, HK1, HO_4, HB⟩ := hrel
    cases gk with
    | zero => exact absurd HA.out (by simp [ancepsref56_Frames.l0])
    | succ k1 =>
      have H := HA.out
      clear HA
      simp only [ancepsref56_Frames.l0] at H
      by_cases c2 : 0 ≤ x5_1
      · rw [if_pos c2] at H
        have c2b0 := eq_true c2
        have c2b1 : decide (0 ≤ x5_1) = true := decide_eq_true c2
        clear c2
        by_cases c3 : x5_1 ≤ (a0.size : Int)
        · rw [if_pos c3] at H
          have c3b0 := eq_true c3
          have c3b1 : decide (x5_1 ≤ (a0.size : Int)) = true := decide_eq_true c3
          clear c3
          replace H := Option.bind_eq_some_iff.mp H
          obtain ⟨⟨t187, t188⟩, A40, H⟩ := H
          replace H : (if t188 = true then (if x4_1.length < 8796093022208 then (ancepsref56_Frames.l0 k1 a0 (x4_1 ++ [t187]) (wrap64 ((wrap64 (x5_1 + 8)) + (t187.size : Int)))) else (none)) else (some (x4_1, x5_1))) = some (r1, r2) := H
          have A4 := Aside0.mk A40
          clear A40
          by_cases c5 : t188 = true
          · subst c5
            have H1 : (if x4_1.length < 8796093022208 then (ancepsref56_Frames.l0 k1 a0 (x4_1 ++ [t187]) (wrap64 ((wrap64 (x5_1 + 8)) + (t187.size : Int)))) else (none)) = some (r1, r2) := by rw [if_pos rfl] at H; exact H
            clear H
            have H := H1
            clear H1
            by_cases c6 : x4_1.length < 8796093022208
            · rw [if_pos c6] at H
              have LMc6 := Aside0.mk c6
              clear c6
              obtain ⟨y189, hy189⟩ : ∃ y_ : List ByteArray, y_ = (x4_1 ++ [t187]) := ⟨_, rfl⟩
              replace H : (ancepsref56_Frames.l0 k1 a0 y189 (wrap64 ((wrap64 (x5_1 + 8)) + (t187.size : Int)))) = some (r1, r2) := by first | (rw [hy189]; with_reducible exact H) | (have H2_ := (Option.bind_some _ _).symm.trans H; rw [hy189]; with_reducible exact H2_) | (have H2_ := (Option.bind_some _ _).symm.trans H; with_reducible exact H2_) | with_reducible exact H | (rw [hy189]; exact H) | exact H
              have Ny189 := Aside0.mk hy189
              clear hy189
              have H' := Aside0.mk H
              clear H
              go_wp2_with (first | ((with_reducible refine gate_callee (f := 37) rfl ?_); refine goesL_ (some 12) rfl rfl Try.func37 (by kernel_rfl) rfl #[.string (a0.extract (x5_1 : Int).toNat a0.size)] rfl (by (try simp only [List.map_toArray, List.map_cons, List.map_nil]); first | done | rfl | (simp only [List.length_drop, List.length_take]; rfl) | (simp only [decide_eq_true_eq, decide_eq_false_iff_not] at *; congr <;> (first | rfl | (refine (congrArg (Value.int .i64) ?_ : Value.int .i64 _ = Value.int .i64 _); unfold wrap64; omega) | fail)) | fail) ?_; (with_reducible refine (ancepsref56_first.calls k1 (a0.extract (x5_1 : Int).toNat a0.size) t187 true _ A4.out).mono ?_); rintro e w' ⟨rfl, ⟨nd, rfl⟩⟩; refine ⟨_, rfl, ?_⟩) | ((with_reducible refine gate_builtin (b := .append) (xs := #[.tmp 19, .tmp 21]) rfl ?_); at_builtin; refine Kd.R_append Kd.string (w0 := w) w.heap.size rfl (.tmp 19) (.tmp 21) 27 9 (.string ⟨#[]⟩) 16 rfl Try.underlying27 info9 rfl (by decide) (by omega) u4 x4_1 t187 [.string t187] (fun _ => True) (fun _ => False) rfl rfl ?aP (fun _ hk => hk.elim) ?aF ?aO ?aB ?aS ?aL ?_; (case aP => exact rfl); (case aB => exact (by repeat (first | (with_reducible first | exact HB.out | apply below_alloc | apply pw_below_drewN | apply below_drew1) | exact HB.out))); (case aF => exact (fun _ _ => trivial)); (case aO => exact (by (with_reducible repeat (first | apply Kd.R_alloc | apply Kd.R_drewN | apply Kd.R_drew)); exact HO_4.out)); (case aS => exact (below_size (by repeat (first | (with_reducible first | exact HB.out | apply below_alloc | apply pw_below_drewN | apply below_drew1) | exact HB.out)))); (case aL => have := LMc6.out; omega); intro v190 w7 ho hb hg hat; rw [← Ny189.out] at ho; have n0_ := Aside0.mk (hb); have n1_ := Aside0.mk (ho); clear HB; clear HO_4; have HB := n0_; have HO191 := n1_; clear n0_ n1_; clear ho hb hg hat))
              go_roundg k1
              case measure => have := HK1.out; omega
              case rel => exact ⟨(y189), (wrap64 ((wrap64 (x5_1 + 8)) + (t187.size : Int))), (by first | rfl | (simp; done) | (simp [*]; done)), H', ⟨by have := HK1.out; omega⟩, ⟨by (with_reducible repeat (first | apply Kd.R_alloc | apply Kd.R_drewN | apply Kd.R_drew)); exact HO191.out⟩, ⟨by repeat (first | (with_reducible first | exact HB.out | apply below_alloc | apply pw_below_drewN | apply below_drew1) | exact HB.out)⟩⟩
            · rw [if_neg c6] at H
              exact absurd H (by simp)
          · replace c5 := Bool.eq_false_iff.mpr c5
            subst c5
            have H1 : (some (x4_1, x5_1)) = some (r1, r2) := by rw [if_neg (show ¬ (false = true) by decide)] at H; exact H
            clear H
            have H := H1
            clear H1
            simp only [Option.some.injEq, Prod.mk.injEq] at H
            obtain ⟨rfl, rfl⟩ := H
            go_wp2_with (first | ((with_reducible refine gate_callee (f := 37) rfl ?_); refine goesL_ (some 12) rfl rfl Try.func37 (by kernel_rfl) rfl #[.string (a0.extract (x5_1 : Int).toNat a0.size)] rfl (by (try simp only [List.map_toArray, List.map_cons, List.map_nil]); first | done | rfl | (simp only [List.length_drop, List.length_take]; rfl) | (simp only [decide_eq_true_eq, decide_eq_false_iff_not] at *; congr <;> (first | rfl | (refine (congrArg (Value.int .i64) ?_ : Value.int .i64 _ = Value.int .i64 _); unfold wrap64; omega) | fail)) | fail) ?_; (with_reducible refine (ancepsref56_first.calls k1 (a0.extract (x5_1 : Int).toNat a0.size) t187 false _ A4.out).mono ?_); rintro e w' ⟨rfl, ⟨nd, rfl⟩⟩; refine ⟨_, rfl, ?_⟩))
            go_ret2
            exact ⟨_, by first | rfl | (simp [errW_none, errW_some] <;> rfl) | (simp [*, errW_none, errW_some] <;> rfl), by (with_reducible repeat (first | apply Kd.R_alloc | apply Kd.R_drewN | apply Kd.R_drew)); exact HO_4.out, by repeat (first | (with_reducible first | exact HB.out | apply below_alloc | apply pw_below_drewN | apply below_drew1) | exact HB.out)⟩
        · rw [if_neg c3] at H
          exact absurd H (by simp)
      · rw [if_neg c2] at H
        exact absurd H (by simp)

end Go.Proofs.Ytoepdplglablcaa.J
