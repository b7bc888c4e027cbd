/- A part of the proof of the tied card of ProfileMerge (chapter 53): the law returns true whatever the input. -/
import Derived.Test.YtolenfcngomdfaaGreatDoorZS
import Derived.Test.YtolenfcngomdfaaGreatDoorZT
import Derived.Test.YtolenfcngomdfaaGreatDoorZU6
set_option linter.unusedVariables false
set_option linter.unusedSimpArgs false
namespace Go.Proofs.YtolenfcngomdfaaGreatDoor.V
open Go.RowKit Go.Proofs.YtolenfcngomdfaaGreatDoorW.PrintWords Go.Proofs.YtolenfcngomdfaaGreatDoorW.PrintLast Go.Proofs.YtolenfcngomdfaaGreatDoorW.PrintMore
set_option linter.unusedVariables false
set_option linter.unusedSimpArgs false
set_option maxHeartbeats 8000000
set_option maxRecDepth 100000
def api_Verse_22.f (l0 l1 : List S72) : Option (List S72) := if l0.length + l1.length ≤ 5000 then some (l0 ++ l1) else none
theorem api_Verse_22.calls (g : Nat) (A0 : Option Addr) (c0 : Nat) (l0 : List S72) (A1 : Option Addr) (c1 : Nat) (l1 r : List S72) (w : World) (hx0 : w.cell? ⟨g, 0, none⟩ = some (.slice A0 l0.length c0)) (hx1 : w.cell? ⟨g, 1, none⟩ = some (.slice A1 l1.length c1))
    (hr0 : Kd.C k72 w A0 l0.length l0) (hc0 : l0.length ≤ c0) (hr1 : Kd.C k72 w A1 l1.length l1) (hc1 : l1.length ≤ c1) (h : api_Verse_22.f l0 l1 = some r) :
    Calls Tryz.prog 22 #[.slice (some ⟨g, 0, none⟩) 2 2] w fun e w' => ∃ v0_ : Value, e = .returned v0_ ∧ Kd.R k72 72 w' w.heap.size (fun _ => True) v0_ r ∧ Below w.heap.size w w' := by
  unfold api_Verse_22.f at h
  by_cases hl : l0.length + l1.length ≤ 5000
  · rw [if_pos hl] at h
    obtain rfl := Option.some.inj h
    exact concat2 g A0 A1 c0 c1 l0 l1 w hx0 hx1 hr0 hr1 hl
  · rw [if_neg hl] at h
    cases h
def profile_Merge.f (k : Nat) (a0_0 : ByteArray) (l0_1 : List (S72)) (l0_2 : List ByteArray) (l0_3 : List Int) (a1_0 : ByteArray) (l1_1 : List (S72)) (l1_2 : List ByteArray) (l1_3 : List Int) : Option (ByteArray × (List (S72)) × List ByteArray × List Int × Int) := (profile_both.f k a0_0 l0_1 l0_2 l0_3 a1_0 l1_1 l1_2 l1_3).bind fun t364 => (if t364 = 0 then (if (wrap64 ((l0_1.length : Int) + (l1_1.length : Int))) > 200 then (some ((⟨#[]⟩ : ByteArray), ([] : List (S72)), ([] : List ByteArray), ([] : List Int), 3)) else ((tally_Merge.f k l0_2 l0_3 l1_2 l1_3).bind fun bt365 => (if bt365.2.2 = 0 then ((api_Verse_22.f l0_1 l1_1).bind fun t373 => (some (a0_0, t373, bt365.1, bt365.2.1, 0))) else (some ((⟨#[]⟩ : ByteArray), ([] : List (S72)), ([] : List ByteArray), ([] : List Int), bt365.2.2))))) else (some ((⟨#[]⟩ : ByteArray), ([] : List (S72)), ([] : List ByteArray), ([] : List Int), t364)))
def profile_Merge.T9 : Bool × List (List Nat × List Nat) := (true, [([], []), ([0], [0]), ([], []), ([2], [2]), ([], []), ([4], [4]), ([3, 5], [3, 5]), ([6], [6]), ([], []), ([1, 7, 8], [1, 7, 8]), ([9, 7, 0, 1, 2, 3, 4, 5, 6, 7, 8, 9], [9]), ([10, 0, 1, 2, 3, 4, 5, 6, 7, 8, 9, 10], [])])
def profile_Merge.B9 : List Nat := [0, 1, 0, 4, 0, 16, 60, 124, 0, 511, 1023, 2047]
theorem profile_Merge.tab9 : rtab .any (opsOf Tryz.f6 9) = profile_Merge.T9 := by kernel_rfl
theorem profile_Merge.bits9 : waitsOk profile_Merge.T9.2 profile_Merge.B9 = true := by kernel_rfl
theorem profile_Merge.calls (k : Nat) (a0_0 : ByteArray) (A0_1 : Option Addr) (c0_1 : Nat) (l0_1 : List (S72)) (A0_2 : Option Addr) (c0_2 : Nat) (l0_2 : List ByteArray) (A0_3 : Option Addr) (c0_3 : Nat) (l0_3 : List Int) (a1_0 : ByteArray) (A1_1 : Option Addr) (c1_1 : Nat) (l1_1 : List (S72)) (A1_2 : Option Addr) (c1_2 : Nat) (l1_2 : List ByteArray) (A1_3 : Option Addr) (c1_3 : Nat) (l1_3 : List Int) (r1 : ByteArray) (r2 : List (S72)) (r3 : List ByteArray) (r4 : List Int) (r5 : Int) (w : World) (hr0_1 : Kd.C k72 w A0_1 l0_1.length l0_1) (hc0_1 : l0_1.length ≤ c0_1) (hr0_2 : Kd.C Kd.string w A0_2 l0_2.length l0_2) (hc0_2 : l0_2.length ≤ c0_2) (hr0_3 : Kd.C (Kd.int .i64) w A0_3 l0_3.length l0_3) (hc0_3 : l0_3.length ≤ c0_3) (hr1_1 : Kd.C k72 w A1_1 l1_1.length l1_1) (hc1_1 : l1_1.length ≤ c1_1) (hr1_2 : Kd.C Kd.string w A1_2 l1_2.length l1_2) (hc1_2 : l1_2.length ≤ c1_2) (hr1_3 : Kd.C (Kd.int .i64) w A1_3 l1_3.length l1_3) (hc1_3 : l1_3.length ≤ c1_3) (h : profile_Merge.f k a0_0 l0_1 l0_2 l0_3 a1_0 l1_1 l1_2 l1_3 = some (r1, r2, r3, r4, r5)) :
  Calls Tryz.prog 6 #[.agg #[.string a0_0, .slice A0_1 l0_1.length c0_1, .slice A0_2 l0_2.length c0_2, .slice A0_3 l0_3.length c0_3], .agg #[.string a1_0, .slice A1_1 l1_1.length c1_1, .slice A1_2 l1_2.length c1_2, .slice A1_3 l1_3.length c1_3]] w fun e w' => ∃ v1_ v2_ v3_ : Value, e = .returned (.tuple #[.agg #[.string r1, v1_, v2_, v3_], .int .i64 r5]) ∧ Kd.R k72 72 w' w.heap.size (fun _ => True) v1_ r2 ∧ Kd.R Kd.string 9 w' w.heap.size (fun _ => True) v2_ r3 ∧ Kd.R (Kd.int .i64) 3 w' w.heap.size (fun _ => True) v3_ r4 ∧ Below w.heap.size w w' := by
 have hu28 := Tryz.underlying28
 have hu26 := Tryz.underlying26
 have hu72 := Tryz.underlying72
 have HB := am (Below.refl w.heap.size w)
 obtain ⟨t, A, H⟩ := bE (am h)
 clear h
 have R0_1 := am hr0_1
 have R0_2 := am hr0_2
 have R0_3 := am hr0_3
 have C0_1 := am hc0_1
 have C0_2 := am hc0_2
 have C0_3 := am hc0_3
 have R1_1 := am hr1_1
 have R1_2 := am hr1_2
 have R1_3 := am hr1_3
 have C1_1 := am hc1_1
 have C1_2 := am hc1_2
 have C1_3 := am hc1_3
 clear hr0_1 hr0_2 hr0_3 hc0_1 hc0_2 hc0_3 hr1_1 hr1_2 hr1_3 hc1_1 hc1_2 hc1_3
 go_enter Tryz.func6, Tryz.ntmps6
 go_wp2_with (first | ((with_reducible refine gate_dst (N := 2) rfl ?_); refine bxe 2 #[.string a0_0, .slice A0_1 l0_1.length c0_1, .slice A0_2 l0_2.length c0_2, .slice A0_3 l0_3.length c0_3] 28 ?_; intro g2 eg w1 b hb; have G2 := szl eg; have B2 := am b; replace HB := bst hb; clear hb b eg) | ((with_reducible refine gate_dst (N := 3) rfl ?_); refine bxe 3 #[.string a1_0, .slice A1_1 l1_1.length c1_1, .slice A1_2 l1_2.length c1_2, .slice A1_3 l1_3.length c1_3] 28 ?_; intro g3 eg w1 b hb; have G3 := szl eg; have N2_3 := nel g2 eg; have N3_2 := ner g2 eg; replace B2 := bbl g2 hb; have B3 := am b; replace HB := bst hb; clear hb b eg) | ((with_reducible refine gate_dst (N := 4) rfl ?_); refine bxe 4 #[.string ⟨#[]⟩, .slice none 0 0, .slice none 0 0, .slice none 0 0] 28 ?_; intro g4 eg w1 b hb; have G4 := szl eg; have N2_4 := nel g2 eg; have N4_2 := ner g2 eg; have N3_4 := nel g3 eg; have N4_3 := ner g3 eg; replace B2 := bbl g2 hb; replace B3 := bbl g3 hb; have B4 := am b; replace HB := bst hb; clear hb b eg; obtain ⟨⟨z0, z1, z2, z3⟩, f0, f1, f2, f3⟩ := cf4 B2.out; obtain ⟨⟨y0, y1, y2, y3⟩, m0, m1, m2, m3⟩ := cf4 B3.out) | (go_at_call 20; refine (profile_both.calls k _ _ _ l0_1 _ _ l0_2 _ _ l0_3 _ _ _ l1_1 _ _ l1_2 _ _ l1_3 t _ rdc aso rdc aso rdc aso rdc aso rdc aso rdc aso A.out).mono ?_; rintro e w2 ⟨rfl, hb⟩; replace B2 := bbl g2 hb; replace B3 := bbl g3 hb; replace B4 := bbl g4 hb; replace HB := bst hb; clear hb z0 z1 z2 z3 f0 f1 f2 f3 y0 y1 y2 y3 m0 m1 m2 m3; obtain ⟨⟨z0, z1, z2, z3⟩, f0, f1, f2, f3⟩ := cf4 B2.out; obtain ⟨⟨y0, y1, y2, y3⟩, m0, m1, m2, m3⟩ := cf4 B3.out; obtain ⟨⟨x0, x1, x2, x3⟩, d0, d1, d2, d3⟩ := cf4 B4.out) | (go_at_call 21; replace H := bE (iF (bF H (by assumption)) (Int.not_lt.2 (by assumption))); obtain ⟨⟨o, oc, e2⟩, A2, H⟩ := H; refine (tally_Merge.calls k _ _ l0_2 _ _ l0_3 _ _ l1_2 _ _ l1_3 o oc e2 _ rdc aso rdc aso rdc aso rdc aso A2.out).mono ?_; rintro e w3 ⟨u0, u1, rfl, ho0, ho1, hb⟩; have O0 := rlo ho0; have O1 := rlo ho1; replace B2 := bbl g2 hb; replace B3 := bbl g3 hb; replace B4 := bbl g4 hb; replace HB := bst hb; clear hb ho0 ho1 z0 z1 z2 z3 f0 f1 f2 f3 y0 y1 y2 y3 m0 m1 m2 m3 x0 x1 x2 x3 d0 d1 d2 d3; obtain ⟨p0, q0, rfl⟩ := Kd.R_slice O0.out; obtain ⟨p1, q1, rfl⟩ := Kd.R_slice O1.out; obtain ⟨⟨x0, x1, x2, x3⟩, d0, d1, d2, d3⟩ := cf4 B4.out) | ((with_reducible refine gate_dst (N := 7) rfl ?_); refine bxe 7 #[.slice none 0 0, .slice none 0 0] 26 ?_; intro g7 eg w1 b hb; have hb0 := hb; have G7 := szl eg; have N2_7 := nel g2 eg; have N7_2 := ner g2 eg; have N3_7 := nel g3 eg; have N7_3 := ner g3 eg; have N4_7 := nel g4 eg; have N7_4 := ner g4 eg; replace B2 := bbl g2 hb; replace B3 := bbl g3 hb; replace B4 := bbl g4 hb; have B7 := am b; replace HB := bst hb; clear hb b eg; replace O0 := rbl O0 hb0; replace O1 := rbl O1 hb0; clear hb0 x0 x1 x2 x3 d0 d1 d2 d3; obtain ⟨⟨x0, x1, x2, x3⟩, d0, d1, d2, d3⟩ := cf4 B4.out; obtain ⟨⟨v0, v1⟩, h0, h1⟩ := cf2 B7.out; have n47 := N4_7.out; have n74 := N7_4.out))
 ·obtain ⟨rfl, rfl, rfl, rfl, rfl⟩ := sj5 (bT H (by assumption))
  refine bodyPost_ret (results_ct rfl _ _ g4 28 #[.string ⟨#[]⟩, .slice none 0 0, .slice none 0 0, .slice none 0 0] (0, 0) _ rfl (set4 sb) Tryz.underlying28 rfl (by kernel_rfl)) rfl ?_
  exact ⟨_, _, _, rr, rnil, rnil, rnil, bel⟩
 ·obtain ⟨rfl, rfl, rfl, rfl, rfl⟩ := sj5 (iT (bF H (by assumption)) (by assumption))
  refine bodyPost_ret (results_ct rfl _ _ g4 28 #[.string ⟨#[]⟩, .slice none 0 0, .slice none 0 0, .slice none 0 0] (0, 0) _ rfl (set4 sb) Tryz.underlying28 rfl (by kernel_rfl)) rfl ?_
  exact ⟨_, _, _, rr, rnil, rnil, rnil, bel⟩
 ·obtain ⟨rfl, rfl, rfl, rfl, rfl⟩ := sj5 (bT (t := e2) H (by assumption))
  refine bodyPost_ret (results_ct rfl _ _ g4 28 #[.string ⟨#[]⟩, .slice none 0 0, .slice none 0 0, .slice none 0 0] (0, 0) _ rfl (set4 sb) Tryz.underlying28 rfl (by kernel_rfl)) rfl ?_
  exact ⟨_, _, _, rr, rnil, rnil, rnil, bel⟩
 ·replace H := bF (t := e2) H (by assumption)
  clear x0 x1 x2 x3 d0 d1 d2 d3 v0 v1 h0 h1
  replace H := bE H
  obtain ⟨ls, A3, H⟩ := H
  obtain ⟨rfl, rfl, rfl, rfl, rfl⟩ := sj5 H
  go_upto_region 9 with (fail)
  refine stt 12 (fun w' => w'.cell? ⟨g2, 0, none⟩ = some (.string a0_0) ∧ w'.cell? ⟨g2, 1, none⟩ = some (.slice A0_1 l0_1.length c0_1) ∧ w'.cell? ⟨g3, 1, none⟩ = some (.slice A1_1 l1_1.length c1_1) ∧ w'.cell? ⟨g7, 0, none⟩ = some (.slice p0 o.length q0) ∧ w'.cell? ⟨g7, 1, none⟩ = some (.slice p1 oc.length q1)) [] _ _ profile_Merge.tab9 profile_Merge.bits9 ⟨hc 0, hc 1, hc 1, hc 0, hc 1⟩ fun w5 hb hS HT HW => ?_
  replace O0 := rbl O0 hb
  replace O1 := rbl O1 hb
  replace B2 := bbl g2 hb
  replace B3 := bbl g3 hb
  replace B4 := bbl g4 hb
  replace B7 := bbl g7 hb
  replace B7 := nb2 B7
  replace HB := bst hb
  clear hb n47 n74
  refine pu 0 ?_
  refine pu 2 ?_
  refine pu 4 ?_
  refine tk 1 ?_
  refine tk 3 ?_
  refine tk 5 ?_
  refine tk 8 ?_
  refine vlu 6 ?_
  refine ⟨⟨hc 0, hc 1, hc 1, hc 0, hc 1⟩, fun hS => nrm ?_⟩
  refine cal 7 Tryz.func22 #[.slice (some ⟨w5.heap.size, 0, none⟩) 2 2] ?_
  refine (api_Verse_22.calls w5.heap.size _ _ l0_1 _ _ l1_1 ls _ ((blk_cell (blk_new _ _) 0).trans rfl) ((blk_cell (blk_new _ _) 1).trans rfl) rdb aso rdb aso A3.out).mono ?_
  rintro e w6 ⟨v, rfl, ho, hb⟩
  have O2 := rlo ho
  replace O0 := rbl O0 hb
  replace O1 := rbl O1 hb
  replace B2 := bbl g2 hb
  replace B3 := bbl g3 hb
  replace B4 := bbl g4 hb
  replace B7 := bbl g7 hb
  replace HB := bst hb
  obtain ⟨p2, q2, rfl⟩ := Kd.R_slice O2.out
  clear hb ho hS
  refine ⟨_, rfl, ⟨hc 0, hc 1, hc 1, hc 0, hc 1⟩, fun hS => nrm ?_⟩
  clear hS
  obtain ⟨⟨x0, x1, x2, x3⟩, d0, d1, d2, d3⟩ := cf4 B4.out
  refine pu 9 ?_
  refine sto 10 ?_
  refine ⟨⟨hc 0, hc 1, hc 1, hc 0, hc 1⟩, fun hS => ?_⟩
  refine pu 11 ?_
  refine dne ?_
  clear hS x0 x1 x2 x3 d0 d1 d2 d3
  go_wp2
  refine bodyPost_ret (results_ct rfl _ _ g4 28 #[.string a0_0, .slice p2 ls.length q2, .slice p0 o.length q0, .slice p1 oc.length q1] (0, 0) _ rfl (set4 sb) Tryz.underlying28 rfl (by kernel_rfl)) rfl ?_
  exact ⟨_, _, _, rr, rx, rx, rx, bel⟩
end Go.Proofs.YtolenfcngomdfaaGreatDoor.V
