/- A part of the proof of the tied card of UnknownForced (chapter 39): the law returns true whatever the input. -/
import Derived.Test.YtpgmoinalongnaaGreatDoorR0
import Derived.Test.YtpgmoinalongnaaGreatDoorO
import Derived.Test.YtpgmoinalongnaaGreatDoorP
import Derived.Test.YtpgmoinalongnaaGreatDoorTie
import Derived.SevenTiedAt
import Derived.ShutString
import Derived.ChangeOld
import Derived.Below
import Derived.SizedLaws
set_option linter.unusedVariables false
set_option linter.unusedSimpArgs false
namespace Go.Proofs.YtpgmoinalongnaaGreatDoor.R
open Go.ChangeShapes Go.WideShapes Go.ChangeAt Go.WideMaps Go.WideElems Go.RowKit
open Go.Proofs.YtpgmoinalongnaaGreatDoorW.PrintWords
set_option linter.unusedVariables false
set_option maxRecDepth 100000
/-- What the condition and the shape give: the table. -/
theorem tab_of {W : World} (hs : W.ShapedOpen Tryz.prog) (h : laidMetH Tryz.prog laid3 W) : EV.TabOK W := by
  obtain ⟨sh, _⟩ := hs
  have s1 : ∃ cs, W.heap[1]? = some (.cells cs 521) := by
    have h1 := start1
    cases e : ((begin Tryz.prog (fun _ _ => 0) default).world.heap[1]?).bind Obj.row? with
    | none => rw [e] at h1; cases h1
    | some x =>
      obtain ⟨z, t⟩ := x
      rw [e] at h1
      obtain rfl : t = 521 := by simpa using h1
      obtain ⟨cs, hc, _⟩ := sh 1 z 521 (by rw [globs]; decide) e
      exact ⟨cs, hc⟩
  have s3 : 3 < W.heap.size := by
    have h1 := start3
    cases e : ((begin Tryz.prog (fun _ _ => 0) default).world.heap[3]?).bind Obj.row? with
    | none => rw [e] at h1; cases h1
    | some x =>
      obtain ⟨z, t⟩ := x
      obtain ⟨cs, hc, _⟩ := sh 3 z t (by rw [globs]; decide) e
      exact (Array.getElem?_eq_some_iff.1 hc).1
  rw [MakeChecks.laidMetH_plain _ _ _ (by kernel_rfl)] at h
  obtain ⟨ps, ⟨_, _, _, _, _, _, _, _, _, _, ⟨_, _, _, _, _, _, _, _, _, _, ⟨g, t, cs, f, p, q, hg, ht, hv, hd, _, _⟩, _⟩, _⟩, _, _⟩ := h
  obtain rfl := Option.some.inj (gTab.symm.trans hg)
  obtain rfl := Option.some.inj (tTab.symm.trans ht)
  obtain ⟨c1, hc1⟩ := s1
  have e1 : c1 = cs := by
    unfold World.var? at hv
    rw [gTab] at hv
    simp only [Option.bind_some, hc1, Option.some.injEq] at hv
    exact hv
  subst e1
  refine ⟨s3, c1, hc1, ?_⟩
  obtain ⟨xs, m, _, hx, hlen, hn, hel⟩ := DataW.trod_array Tryz.underlying521 hd
  have cu : Tryz.prog.cellsOf 325 = 1 := by kernel_rfl
  have ca : Tryz.prog.cellsOf 521 = 20 := by kernel_rfl
  rw [ca] at hlen
  simp only [Prod.mk.injEq] at hx
  have hx := hx.1
  have hxs : (Rows.laid_internal_strconv_uint64pow10 : DataW Unit) = .agg (EV.pow10.map fun (n : Nat) => .lit (.int .u64 (n : Int))) := rfl
  rw [hxs] at hx
  injection hx with hx
  apply List.ext_getElem?
  intro i
  by_cases hi : i < 20
  · have h1 := hel i hi
    rw [cu, Nat.mul_one] at h1
    have hi2 : i < xs.length := by omega
    rw [List.getElem?_eq_getElem hi2] at h1
    obtain ⟨n, e2, e3, _⟩ := DataW.trod_int Tryz.underlying325 h1
    have e4 : (EV.pow10.map fun (n : Nat) => (.lit (.int .u64 (n : Int)) : DataW Unit))[i]? = (xs.map (·.1))[i]? := by rw [hx]
    rw [List.getElem?_map, List.getElem?_map, List.getElem?_eq_getElem hi2, e3] at e4
    have hp : i < EV.pow10.length := hi
    rw [List.getElem?_eq_getElem hp] at e4
    simp only [Option.map_some, Option.some.injEq, DataW.lit.injEq, Lit.int.injEq, true_and] at e4
    have hcl : i < c1.toList.length := by omega
    rw [List.drop_eq_getElem_cons hcl, List.take_succ_cons] at e2
    simp only [List.take_zero, List.cons.injEq, and_true] at e2
    rw [List.getElem?_eq_getElem hcl, e2, List.getElem?_map, List.getElem?_eq_getElem hp, Option.map_some, e4]
  · rw [List.getElem?_eq_none (by omega), List.getElem?_eq_none (by rw [List.length_map]; show 20 ≤ i; omega)]
theorem lifted (os : Os) (started : os.Started) (H : Type) (enc : TypeId × Value → H) :
    ReturnsInHanded {} Tryz.checked os 3 .any (fun w args => (Rows.unknownForcedSpec.pre enc Tryz.prog Tryz.f3 [] false w args ∧ laidMetH Tryz.prog laid3 w) ∧ sizedMet enc Tryz.prog Tryz.f3 (OpenSpec.ofChange Rows.unknownForcedSpec) false w args)
      (Rows.unknownForcedSpec.post enc Tryz.prog Tryz.f3 false true false false) := by
  refine returnsInHanded_of_calls (C := Tryz.checked) own started (by kernel_rfl)
    (ChangeSpec.witness_shaped (enc := enc) (C := Tryz.checked) (os := os) (X := fun w _ => laidMetH Tryz.prog laid3 w) false (World.doorLaid Tryz.prog 2000 os) #[.agg #[.slice none 0 0, .slice none 0 0]] 8 rfl (World.shaped_of_RefB (by kernel_rfl) (by kernel_rfl)) (by kernel_rfl) (by kernel_rfl) (by kernel_rfl) (door_met os _)) ?_
  intro w0 tape i _ hsh _ hok hpre hholds
  obtain ⟨_, _, _, fn', hfn', _, _, _, _, hval0⟩ := hok
  have efn : fn' = Tryz.f3 := Option.some.inj (hfn'.symm.trans Tryz.func3)
  subst efn
  obtain ⟨⟨⟨ds, gs, before, hw, hcnd⟩, hx⟩, hz⟩ := hpre
  have hW := DataW.Whole.of_heap (w' := w0.forCall tape i) (by rfl) hw
  have hT : EV.TabOK (w0.forCall tape i) := tab_of hsh (hx.of_heap (by rfl))
  refine Calls.mono ?_ fun e W' (h : ∃ v, e = .returned v ∧ Rows.unknownForcedSpec.post enc Tryz.prog Tryz.f3 false true false false (w0.forCall tape i) i.args v W') => ?_
  rotate_left
  · obtain ⟨v, rfl, hp⟩ := h
    exact ChangeSpec.post_blind hp
  generalize w0.forCall tape i = W at *
  generalize i.args = args at *
  have hval : ∀ (j : Nat) t v, Tryz.f3.params[j]? = some t → args[j]? = some v → Value.okWide Tryz.prog W .any w0.heap.size t v := hval0
  have hW' := hW
  obtain ⟨p, q, hA0, hV, rfl, hfz, hnd⟩ := hW
  have hA : DataW.TrodAll enc Tryz.prog W 0 (fun _ => true) true Tryz.f3.params.toList args.toList ds p := hA0
  rw [Tryz.params3] at hA hval
  obtain ⟨v0, vs0, d0, ds0, p0, q0, hargs, rfl, rfl, h0, r0⟩ := trodAll_cons hA
  obtain ⟨rfl, rfl, rfl⟩ := trodAll_nil r0
  obtain rfl : args = #[v0] := by cases args; simp_all
  obtain ⟨rfl, rfl⟩ := trodVars_none hV
  have k0 := h0
  have lt0 : ∀ x ∈ p0, x.block < W.heap.size := by obtain ⟨m, hm⟩ := k0; exact DataW.trod_lt m _ _ _ hm
  have OS := O.Opens.slice Tryz.underlying22 (by kernel_rfl) (O.Opens.int Tryz.underlying3 (by kernel_rfl))
  obtain ⟨cs0, x0, rfl, hK0, ok0⟩ := O.opens_agg Tryz.underlying24 (by kernel_rfl) (O.OpensF.more rfl OS (O.OpensF.one rfl OS)) (hval 0 24 v0 rfl rfl) h0
  obtain ⟨l0, l1⟩ := x0
  obtain ⟨c1, c2, e0, K1, K2⟩ := hK0
  obtain ⟨A1, n1, e1, hc1, hr1⟩ := K1
  obtain ⟨A2, n2, e2, hc2, hr2⟩ := K2
  subst e1 e2
  obtain rfl : cs0 = #[.slice A1 l0.length n1, .slice A2 l1.length n2] := by cases cs0; simp_all
  clear hA0 hval0
  have hk := U.pure_forced l0 l1
  refine (U.ancepslaw39_UnknownForced.calls 20001 A1 n1 l0 A2 n2 l1 true W hr1 hc1 hr2 hc2 hT hk).mono fun e W' ⟨he, bel⟩ => ?_
  subst he
  exact ⟨_, rfl, _, _, _, [], _, [], hW', trodAll_mk1 (shut_bool Tryz.underlying4 _), (trodAll_cons_mk (Below.trod laidOut (by kernel_rfl) (of_decide_eq_true (by kernel_rfl)) k0 bel lt0) trodAll_mk0), rfl, bel.frame _, fun h => by cases h⟩
end Go.Proofs.YtpgmoinalongnaaGreatDoor.R
