/- A part of the proof of the tied card of ProfileMerge (chapter 53): the law returns true whatever the input. -/
import Derived.Test.YtolenfcngomdfaaGreatDoorZS
import Derived.Test.YtolenfcngomdfaaGreatDoorZHG
import Derived.Test.YtolenfcngomdfaaGreatDoorZHB
import Derived.Test.YtolenfcngomdfaaGreatDoorZU2
import Derived.Test.YtolenfcngomdfaaGreatDoorZU4
import Derived.Test.YtolenfcngomdfaaGreatDoorZK
set_option linter.unusedVariables false
set_option linter.unusedSimpArgs false
namespace Go.Proofs.YtolenfcngomdfaaGreatDoor.V
open Go.RowKit Go.Proofs.YtolenfcngomdfaaGreatDoorW.PrintWords Go.Proofs.YtolenfcngomdfaaGreatDoorW.PrintLast Go.Proofs.YtolenfcngomdfaaGreatDoorW.PrintMore
set_option linter.unusedVariables false
set_option linter.unusedSimpArgs false
set_option maxHeartbeats 8000000
set_option maxRecDepth 100000
def law.T3 : Bool × List (List Nat × List Nat) := (true, [([], []), ([0], [0]), ([], []), ([2, 1], [2]), ([1, 3, 3], [1, 3]), ([4], [4]), ([5], [5]), ([5], [5]), ([], []), ([8, 6, 4, 0, 1, 2, 3, 4, 5, 6, 8], [6, 8]), ([7, 9, 0, 1, 2, 3, 4, 5, 6, 7, 8, 9], [7])])
def law.B3 : List Nat := [0, 1, 0, 7, 15, 31, 63, 63, 0, 383, 1023]
theorem law.tab3 : rtab .any (opsOf Tryz.f3 3) = law.T3 := by kernel_rfl
theorem law.bits3 : waitsOk law.T3.2 law.B3 = true := by kernel_rfl
theorem law_no (k : Nat) (a0_0 : ByteArray) (A0_1 : Option Addr) (c0_1 : Nat) (l0_1 : List S72) (A0_2 : Option Addr) (c0_2 : Nat) (l0_2 : List ByteArray) (A0_3 : Option Addr) (c0_3 : Nat) (l0_3 : List Int) (a1_0 : ByteArray) (A1_1 : Option Addr) (c1_1 : Nat) (l1_1 : List S72) (A1_2 : Option Addr) (c1_2 : Nat) (l1_2 : List ByteArray) (A1_3 : Option Addr) (c1_3 : Nat) (l1_3 : List Int) (w : World) (hr0_1 : Kd.C k72 w A0_1 l0_1.length l0_1) (hc0_1 : l0_1.length ≤ c0_1) (hr0_2 : Kd.C Kd.string w A0_2 l0_2.length l0_2) (hc0_2 : l0_2.length ≤ c0_2) (hr0_3 : Kd.C (Kd.int .i64) w A0_3 l0_3.length l0_3) (hc0_3 : l0_3.length ≤ c0_3) (hr1_1 : Kd.C k72 w A1_1 l1_1.length l1_1) (hc1_1 : l1_1.length ≤ c1_1) (hr1_2 : Kd.C Kd.string w A1_2 l1_2.length l1_2) (hc1_2 : l1_2.length ≤ c1_2) (hr1_3 : Kd.C (Kd.int .i64) w A1_3 l1_3.length l1_3) (hc1_3 : l1_3.length ≤ c1_3) (hT : EV.TabOK w) (hA : ancepsref53_Few.f k a0_0 l0_1 l0_2 l0_3 = some false) :
  Calls Tryz.prog 3 #[.agg #[.string a0_0, .slice A0_1 l0_1.length c0_1, .slice A0_2 l0_2.length c0_2, .slice A0_3 l0_3.length c0_3], .agg #[.string a1_0, .slice A1_1 l1_1.length c1_1, .slice A1_2 l1_2.length c1_2, .slice A1_3 l1_3.length c1_3]] w fun e w' => e = .returned (.bool true) ∧ Below w.heap.size w w' := by
 have hu28 := Tryz.underlying28
 have HB := am (Below.refl w.heap.size w)
 have R0_1 := am hr0_1
 have R0_2 := am hr0_2
 have R0_3 := am hr0_3
 have C0_1 := am hc0_1
 have C0_2 := am hc0_2
 have C0_3 := am hc0_3
 have R1_1 := am hr1_1
 have R1_2 := am hr1_2
 have R1_3 := am hr1_3
 have C1_1 := am hc1_1
 have C1_2 := am hc1_2
 have C1_3 := am hc1_3
 clear hr0_1 hr0_2 hr0_3 hc0_1 hc0_2 hc0_3 hr1_1 hr1_2 hr1_3 hc1_1 hc1_2 hc1_3
 have HT := am hT
 clear hT
 have FA := am hA
 clear hA
 go_enter Tryz.func3, Tryz.ntmps3
 go_wp2_with (first | ((with_reducible refine gate_dst (N := 2) rfl ?_); refine bxe 2 #[.string a0_0, .slice A0_1 l0_1.length c0_1, .slice A0_2 l0_2.length c0_2, .slice A0_3 l0_3.length c0_3] 28 ?_; intro g2 eg w1 b hb; have G2 := szl eg; have B2 := am b; replace HB := bst hb; clear hb b eg) | ((with_reducible refine gate_dst (N := 3) rfl ?_); refine bxe 3 #[.string a1_0, .slice A1_1 l1_1.length c1_1, .slice A1_2 l1_2.length c1_2, .slice A1_3 l1_3.length c1_3] 28 ?_; intro g3 eg w1 b hb; have G3 := szl eg; have N2_3 := nel g2 eg; have N3_2 := ner g2 eg; replace B2 := bbl g2 hb; have B3 := am b; replace HB := bst hb; clear hb b eg; obtain ⟨⟨z0, z1, z2, z3⟩, f0, f1, f2, f3⟩ := cf4 B2.out; obtain ⟨⟨y0, y1, y2, y3⟩, m0, m1, m2, m3⟩ := cf4 B3.out) | (go_at_call 4; refine (EV.awake53 _ (EV.TabOK.below HT.out bel)).mono ?_; rintro e w1 ⟨rfl, hb⟩; replace B2 := bbl g2 hb; replace B3 := bbl g3 hb; replace HB := bst hb; clear hb z0 z1 z2 z3 f0 f1 f2 f3 y0 y1 y2 y3 m0 m1 m2 m3; obtain ⟨⟨z0, z1, z2, z3⟩, f0, f1, f2, f3⟩ := cf4 B2.out; obtain ⟨⟨y0, y1, y2, y3⟩, m0, m1, m2, m3⟩ := cf4 B3.out) | (go_at_call 5; (with_reducible refine (ancepsref53_Few.calls k _ _ _ l0_1 _ _ l0_2 _ _ l0_3 _ _ rdc aso rdc aso rdc aso FA.out).mono ?_); rintro e w1 ⟨rfl, hb⟩; replace B2 := bbl g2 hb; replace B3 := bbl g3 hb; replace HB := bst hb; clear hb z0 z1 z2 z3 f0 f1 f2 f3 y0 y1 y2 y3 m0 m1 m2 m3; obtain ⟨⟨z0, z1, z2, z3⟩, f0, f1, f2, f3⟩ := cf4 B2.out; obtain ⟨⟨y0, y1, y2, y3⟩, m0, m1, m2, m3⟩ := cf4 B3.out))
 go_ret
 exact ⟨rr, bel⟩
theorem law_no2 (k : Nat) (a0_0 : ByteArray) (A0_1 : Option Addr) (c0_1 : Nat) (l0_1 : List S72) (A0_2 : Option Addr) (c0_2 : Nat) (l0_2 : List ByteArray) (A0_3 : Option Addr) (c0_3 : Nat) (l0_3 : List Int) (a1_0 : ByteArray) (A1_1 : Option Addr) (c1_1 : Nat) (l1_1 : List S72) (A1_2 : Option Addr) (c1_2 : Nat) (l1_2 : List ByteArray) (A1_3 : Option Addr) (c1_3 : Nat) (l1_3 : List Int) (w : World) (hr0_1 : Kd.C k72 w A0_1 l0_1.length l0_1) (hc0_1 : l0_1.length ≤ c0_1) (hr0_2 : Kd.C Kd.string w A0_2 l0_2.length l0_2) (hc0_2 : l0_2.length ≤ c0_2) (hr0_3 : Kd.C (Kd.int .i64) w A0_3 l0_3.length l0_3) (hc0_3 : l0_3.length ≤ c0_3) (hr1_1 : Kd.C k72 w A1_1 l1_1.length l1_1) (hc1_1 : l1_1.length ≤ c1_1) (hr1_2 : Kd.C Kd.string w A1_2 l1_2.length l1_2) (hc1_2 : l1_2.length ≤ c1_2) (hr1_3 : Kd.C (Kd.int .i64) w A1_3 l1_3.length l1_3) (hc1_3 : l1_3.length ≤ c1_3) (hT : EV.TabOK w) (hA : ancepsref53_Few.f k a0_0 l0_1 l0_2 l0_3 = some true) (hB : ancepsref53_Few.f k a1_0 l1_1 l1_2 l1_3 = some false) :
  Calls Tryz.prog 3 #[.agg #[.string a0_0, .slice A0_1 l0_1.length c0_1, .slice A0_2 l0_2.length c0_2, .slice A0_3 l0_3.length c0_3], .agg #[.string a1_0, .slice A1_1 l1_1.length c1_1, .slice A1_2 l1_2.length c1_2, .slice A1_3 l1_3.length c1_3]] w fun e w' => e = .returned (.bool true) ∧ Below w.heap.size w w' := by
 have hu28 := Tryz.underlying28
 have HB := am (Below.refl w.heap.size w)
 have R0_1 := am hr0_1
 have R0_2 := am hr0_2
 have R0_3 := am hr0_3
 have C0_1 := am hc0_1
 have C0_2 := am hc0_2
 have C0_3 := am hc0_3
 have R1_1 := am hr1_1
 have R1_2 := am hr1_2
 have R1_3 := am hr1_3
 have C1_1 := am hc1_1
 have C1_2 := am hc1_2
 have C1_3 := am hc1_3
 clear hr0_1 hr0_2 hr0_3 hc0_1 hc0_2 hc0_3 hr1_1 hr1_2 hr1_3 hc1_1 hc1_2 hc1_3
 have HT := am hT
 clear hT
 have FA := am hA
 have FB := am hB
 clear hA hB
 go_enter Tryz.func3, Tryz.ntmps3
 go_wp2_with (first | ((with_reducible refine gate_dst (N := 2) rfl ?_); refine bxe 2 #[.string a0_0, .slice A0_1 l0_1.length c0_1, .slice A0_2 l0_2.length c0_2, .slice A0_3 l0_3.length c0_3] 28 ?_; intro g2 eg w1 b hb; have G2 := szl eg; have B2 := am b; replace HB := bst hb; clear hb b eg) | ((with_reducible refine gate_dst (N := 3) rfl ?_); refine bxe 3 #[.string a1_0, .slice A1_1 l1_1.length c1_1, .slice A1_2 l1_2.length c1_2, .slice A1_3 l1_3.length c1_3] 28 ?_; intro g3 eg w1 b hb; have G3 := szl eg; have N2_3 := nel g2 eg; have N3_2 := ner g2 eg; replace B2 := bbl g2 hb; have B3 := am b; replace HB := bst hb; clear hb b eg; obtain ⟨⟨z0, z1, z2, z3⟩, f0, f1, f2, f3⟩ := cf4 B2.out; obtain ⟨⟨y0, y1, y2, y3⟩, m0, m1, m2, m3⟩ := cf4 B3.out) | (go_at_call 4; refine (EV.awake53 _ (EV.TabOK.below HT.out bel)).mono ?_; rintro e w1 ⟨rfl, hb⟩; replace B2 := bbl g2 hb; replace B3 := bbl g3 hb; replace HB := bst hb; clear hb z0 z1 z2 z3 f0 f1 f2 f3 y0 y1 y2 y3 m0 m1 m2 m3; obtain ⟨⟨z0, z1, z2, z3⟩, f0, f1, f2, f3⟩ := cf4 B2.out; obtain ⟨⟨y0, y1, y2, y3⟩, m0, m1, m2, m3⟩ := cf4 B3.out) | (go_at_call 5; (with_reducible refine (ancepsref53_Few.calls k _ _ _ l0_1 _ _ l0_2 _ _ l0_3 _ _ rdc aso rdc aso rdc aso FA.out).mono ?_); rintro e w1 ⟨rfl, hb⟩; replace B2 := bbl g2 hb; replace B3 := bbl g3 hb; replace HB := bst hb; clear hb z0 z1 z2 z3 f0 f1 f2 f3 y0 y1 y2 y3 m0 m1 m2 m3; obtain ⟨⟨z0, z1, z2, z3⟩, f0, f1, f2, f3⟩ := cf4 B2.out; obtain ⟨⟨y0, y1, y2, y3⟩, m0, m1, m2, m3⟩ := cf4 B3.out) | (go_at_call 5; (with_reducible refine (ancepsref53_Few.calls k _ _ _ l1_1 _ _ l1_2 _ _ l1_3 _ _ rdc aso rdc aso rdc aso FB.out).mono ?_); rintro e w1 ⟨rfl, hb⟩; replace B2 := bbl g2 hb; replace B3 := bbl g3 hb; replace HB := bst hb; clear hb z0 z1 z2 z3 f0 f1 f2 f3 y0 y1 y2 y3 m0 m1 m2 m3; obtain ⟨⟨z0, z1, z2, z3⟩, f0, f1, f2, f3⟩ := cf4 B2.out; obtain ⟨⟨y0, y1, y2, y3⟩, m0, m1, m2, m3⟩ := cf4 B3.out))
 go_ret
 exact ⟨rr, bel⟩
theorem law_yes (k : Nat) (a0_0 : ByteArray) (A0_1 : Option Addr) (c0_1 : Nat) (l0_1 : List S72) (A0_2 : Option Addr) (c0_2 : Nat) (l0_2 : List ByteArray) (A0_3 : Option Addr) (c0_3 : Nat) (l0_3 : List Int) (a1_0 : ByteArray) (A1_1 : Option Addr) (c1_1 : Nat) (l1_1 : List S72) (A1_2 : Option Addr) (c1_2 : Nat) (l1_2 : List ByteArray) (A1_3 : Option Addr) (c1_3 : Nat) (l1_3 : List Int) (w : World) (hr0_1 : Kd.C k72 w A0_1 l0_1.length l0_1) (hc0_1 : l0_1.length ≤ c0_1) (hr0_2 : Kd.C Kd.string w A0_2 l0_2.length l0_2) (hc0_2 : l0_2.length ≤ c0_2) (hr0_3 : Kd.C (Kd.int .i64) w A0_3 l0_3.length l0_3) (hc0_3 : l0_3.length ≤ c0_3) (hr1_1 : Kd.C k72 w A1_1 l1_1.length l1_1) (hc1_1 : l1_1.length ≤ c1_1) (hr1_2 : Kd.C Kd.string w A1_2 l1_2.length l1_2) (hc1_2 : l1_2.length ≤ c1_2) (hr1_3 : Kd.C (Kd.int .i64) w A1_3 l1_3.length l1_3) (hc1_3 : l1_3.length ≤ c1_3) (hT : EV.TabOK w) (p : ByteArray) (ps : List S72) (pl ql : List ByteArray) (pc : List Int) (e : Int) (hA : ancepsref53_Few.f k a0_0 l0_1 l0_2 l0_3 = some true) (hB : ancepsref53_Few.f k a1_0 l1_1 l1_2 l1_3 = some true) (hOA : ancepslaw53_own.f a0_0 l0_1 l0_2 l0_3 = some (a0_0, l0_1, l0_2, l0_3)) (hOB : ancepslaw53_own.f a1_0 l1_1 l1_2 l1_3 = some (a1_0, l1_1, l1_2, l1_3)) (hM : profile_Merge.f k a0_0 l0_1 l0_2 l0_3 a1_0 l1_1 l1_2 l1_3 = some (p, ps, pl, pc, e)) (hR : ancepsref53_Merge.f k a0_0 l0_1 l0_2 l0_3 a1_0 l1_1 l1_2 l1_3 = some (p, ps, ql, pc, e)) (hS : ancepsref53_Same.f k p ps pl pc p ps ql pc = some true) :
  Calls Tryz.prog 3 #[.agg #[.string a0_0, .slice A0_1 l0_1.length c0_1, .slice A0_2 l0_2.length c0_2, .slice A0_3 l0_3.length c0_3], .agg #[.string a1_0, .slice A1_1 l1_1.length c1_1, .slice A1_2 l1_2.length c1_2, .slice A1_3 l1_3.length c1_3]] w fun e w' => e = .returned (.bool true) ∧ Below w.heap.size w w' := by
 have hu28 := Tryz.underlying28
 have HB := am (Below.refl w.heap.size w)
 have R0_1 := am hr0_1
 have R0_2 := am hr0_2
 have R0_3 := am hr0_3
 have C0_1 := am hc0_1
 have C0_2 := am hc0_2
 have C0_3 := am hc0_3
 have R1_1 := am hr1_1
 have R1_2 := am hr1_2
 have R1_3 := am hr1_3
 have C1_1 := am hc1_1
 have C1_2 := am hc1_2
 have C1_3 := am hc1_3
 clear hr0_1 hr0_2 hr0_3 hc0_1 hc0_2 hc0_3 hr1_1 hr1_2 hr1_3 hc1_1 hc1_2 hc1_3
 have HT := am hT
 clear hT
 have FA := am hA
 have FB := am hB
 have OA := am hOA
 have OB := am hOB
 have HM := am hM
 have HR := am hR
 have HS := am hS
 clear hA hB hOA hOB hM hR hS
 go_enter Tryz.func3, Tryz.ntmps3
 go_wp2_with (first | ((with_reducible refine gate_dst (N := 2) rfl ?_); refine bxe 2 #[.string a0_0, .slice A0_1 l0_1.length c0_1, .slice A0_2 l0_2.length c0_2, .slice A0_3 l0_3.length c0_3] 28 ?_; intro g2 eg w1 b hb; have G2 := szl eg; have B2 := am b; replace HB := bst hb; clear hb b eg) | ((with_reducible refine gate_dst (N := 3) rfl ?_); refine bxe 3 #[.string a1_0, .slice A1_1 l1_1.length c1_1, .slice A1_2 l1_2.length c1_2, .slice A1_3 l1_3.length c1_3] 28 ?_; intro g3 eg w1 b hb; have G3 := szl eg; have N2_3 := nel g2 eg; have N3_2 := ner g2 eg; replace B2 := bbl g2 hb; have B3 := am b; replace HB := bst hb; clear hb b eg; obtain ⟨⟨z0, z1, z2, z3⟩, f0, f1, f2, f3⟩ := cf4 B2.out; obtain ⟨⟨y0, y1, y2, y3⟩, m0, m1, m2, m3⟩ := cf4 B3.out) | (go_at_call 4; refine (EV.awake53 _ (EV.TabOK.below HT.out bel)).mono ?_; rintro e w1 ⟨rfl, hb⟩; replace B2 := bbl g2 hb; replace B3 := bbl g3 hb; replace HB := bst hb; clear hb z0 z1 z2 z3 f0 f1 f2 f3 y0 y1 y2 y3 m0 m1 m2 m3; obtain ⟨⟨z0, z1, z2, z3⟩, f0, f1, f2, f3⟩ := cf4 B2.out; obtain ⟨⟨y0, y1, y2, y3⟩, m0, m1, m2, m3⟩ := cf4 B3.out) | (go_at_call 5; (with_reducible refine (ancepsref53_Few.calls k _ _ _ l0_1 _ _ l0_2 _ _ l0_3 _ _ rdc aso rdc aso rdc aso FA.out).mono ?_); rintro e w1 ⟨rfl, hb⟩; replace B2 := bbl g2 hb; replace B3 := bbl g3 hb; replace HB := bst hb; clear hb z0 z1 z2 z3 f0 f1 f2 f3 y0 y1 y2 y3 m0 m1 m2 m3; obtain ⟨⟨z0, z1, z2, z3⟩, f0, f1, f2, f3⟩ := cf4 B2.out; obtain ⟨⟨y0, y1, y2, y3⟩, m0, m1, m2, m3⟩ := cf4 B3.out) | (go_at_call 5; (with_reducible refine (ancepsref53_Few.calls k _ _ _ l1_1 _ _ l1_2 _ _ l1_3 _ _ rdc aso rdc aso rdc aso FB.out).mono ?_); rintro e w1 ⟨rfl, hb⟩; replace B2 := bbl g2 hb; replace B3 := bbl g3 hb; replace HB := bst hb; clear hb z0 z1 z2 z3 f0 f1 f2 f3 y0 y1 y2 y3 m0 m1 m2 m3; obtain ⟨⟨z0, z1, z2, z3⟩, f0, f1, f2, f3⟩ := cf4 B2.out; obtain ⟨⟨y0, y1, y2, y3⟩, m0, m1, m2, m3⟩ := cf4 B3.out))
 clear z0 z1 z2 z3 f0 f1 f2 f3 y0 y1 y2 y3 m0 m1 m2 m3
 refine stt 11 (fun w' => w'.cell? ⟨g2, 0, none⟩ = some (.string a0_0) ∧ w'.cell? ⟨g2, 1, none⟩ = some (.slice A0_1 l0_1.length c0_1) ∧ w'.cell? ⟨g2, 2, none⟩ = some (.slice A0_2 l0_2.length c0_2) ∧ w'.cell? ⟨g2, 3, none⟩ = some (.slice A0_3 l0_3.length c0_3) ∧ w'.cell? ⟨g3, 0, none⟩ = some (.string a1_0) ∧ w'.cell? ⟨g3, 1, none⟩ = some (.slice A1_1 l1_1.length c1_1) ∧ w'.cell? ⟨g3, 2, none⟩ = some (.slice A1_2 l1_2.length c1_2) ∧ w'.cell? ⟨g3, 3, none⟩ = some (.slice A1_3 l1_3.length c1_3)) [] _ _ law.tab3 law.bits3 ⟨hc 0, hc 1, hc 2, hc 3, hc 0, hc 1, hc 2, hc 3⟩ fun w4 hb hS HU HW => ?_
 replace B2 := bbl g2 hb
 replace B3 := bbl g3 hb
 replace HB := bst hb
 clear hb
 refine tk 0 ?_
 refine tk 2 ?_
 refine join_ (σ := Value × Value × Value × Nat) 2 #[true, true, true, true, true, true, true, true, true, false, false] (fun s => [(24, s.1), (26, s.2.1), (27, .tuple #[s.2.2.1, .int .i64 e]), (22, .tuple #[s.2.2.1, .int .i64 e]), (28, s.2.2.1), (29, .int .i64 e), (5, .pointer (some ⟨s.2.2.2, 0, none⟩))]) (fun s w' => (fun w' => w'.cell? ⟨g2, 0, none⟩ = some (.string a0_0) ∧ w'.cell? ⟨g2, 1, none⟩ = some (.slice A0_1 l0_1.length c0_1) ∧ w'.cell? ⟨g2, 2, none⟩ = some (.slice A0_2 l0_2.length c0_2) ∧ w'.cell? ⟨g2, 3, none⟩ = some (.slice A0_3 l0_3.length c0_3) ∧ w'.cell? ⟨g3, 0, none⟩ = some (.string a1_0) ∧ w'.cell? ⟨g3, 1, none⟩ = some (.slice A1_1 l1_1.length c1_1) ∧ w'.cell? ⟨g3, 2, none⟩ = some (.slice A1_2 l1_2.length c1_2) ∧ w'.cell? ⟨g3, 3, none⟩ = some (.slice A1_3 l1_3.length c1_3)) w' ∧ (∃ v1 v2 v3, s.2.2.1 = .agg #[.string p, v1, v2, v3] ∧ Aside0 (Kd.R k72 72 w' w.heap.size (fun _ => True) v1 ps) ∧ Aside0 (RS w' w v2 pl) ∧ Aside0 (RI w' w v3 pc)) ∧ Aside0 (w'.heap[s.2.2.2]? = some (.cells #[.string ⟨#[]⟩, .slice none 0 0, .slice none 0 0, .slice none 0 0] 28 (0, 0))) ∧ Aside0 (w'.heap[g2]? = some (.cells #[.string a0_0, .slice A0_1 l0_1.length c0_1, .slice A0_2 l0_2.length c0_2, .slice A0_3 l0_3.length c0_3] 28 (0, 0))) ∧ Aside0 (w'.heap[g3]? = some (.cells #[.string a1_0, .slice A1_1 l1_1.length c1_1, .slice A1_2 l1_2.length c1_2, .slice A1_3 l1_3.length c1_3] 28 (0, 0))) ∧ Aside0 (Below w.heap.size w w') ∧ Aside0 (w.heap.size ≤ s.2.2.2) ∧ Aside0 (g2 ≠ s.2.2.2) ∧ Aside0 (s.2.2.2 ≠ g2) ∧ Aside0 (g3 ≠ s.2.2.2) ∧ Aside0 (s.2.2.2 ≠ g3)) ?_ ?_
 ·rintro ⟨va, vb, vt, g5⟩ w5 ⟨hS, ⟨v1, v2, v3, rfl, P1, P2, P3⟩, B5, B2, B3, HB, G5, N2_5, N5_2, N3_5, N5_3⟩
  refine nrp ?_
  obtain ⟨pP1, qP1, rfl⟩ := Kd.R_slice P1.out
  obtain ⟨pP2, qP2, rfl⟩ := Kd.R_slice P2.out
  obtain ⟨pP3, qP3, rfl⟩ := Kd.R_slice P3.out
  obtain ⟨⟨x0, x1, x2, x3⟩, d0, d1, d2, d3⟩ := cf4 B5.out
  refine sto 9 ?_
  refine ⟨⟨hc 0, hc 1, hc 2, hc 3, hc 0, hc 1, hc 2, hc 3⟩, fun hS => ?_⟩
  refine pu 10 ?_
  refine dne ?_
  clear hS HU HW x0 x1 x2 x3 d0 d1 d2 d3
  have n1 := N2_5.out
  have n2 := N5_2.out
  have n3 := N3_5.out
  have n4 := N5_3.out
  obtain ⟨⟨z0, z1, z2, z3⟩, f0, f1, f2, f3⟩ := cf4 B2.out
  obtain ⟨⟨y0, y1, y2, y3⟩, m0, m1, m2, m3⟩ := cf4 B3.out
  go_wp2_with (first | (go_at_call 8; refine (ancepsref53_Merge.calls k _ _ _ l0_1 _ _ l0_2 _ _ l0_3 _ _ _ l1_1 _ _ l1_2 _ _ l1_3 p ps ql pc e _ rdb aso rdb aso rdb aso rdb aso rdb aso rdb aso HR.out).mono ?_; rintro e1 w6 ⟨v1, v2, v3, rfl, ho1, ho2, ho3, hb⟩; have Q1 := rlo ho1; have Q2 := rlo ho2; have Q3 := rlo ho3; replace P1 := rbl P1 hb; replace P2 := rbl P2 hb; replace P3 := rbl P3 hb; replace B5 := bbl g5 hb (set4 B5.out); replace HB := bst hb; clear hb ho1 ho2 ho3 z0 z1 z2 z3 f0 f1 f2 f3 y0 y1 y2 y3 m0 m1 m2 m3 n1 n2 n3 n4 B2 B3; obtain ⟨pQ1, qQ1, rfl⟩ := Kd.R_slice Q1.out; obtain ⟨pQ2, qQ2, rfl⟩ := Kd.R_slice Q2.out; obtain ⟨pQ3, qQ3, rfl⟩ := Kd.R_slice Q3.out) | ((with_reducible refine gate_dst (N := 7) rfl ?_); refine bxe 7 #[.string ⟨#[]⟩, .slice none 0 0, .slice none 0 0, .slice none 0 0] 28 ?_; intro g7 eg w7 b hb; have G7 := szl eg; have N5_7 := nel g5 eg; have N7_5 := ner g5 eg; replace P1 := rbl P1 hb; replace P2 := rbl P2 hb; replace P3 := rbl P3 hb; replace Q1 := rbl Q1 hb; replace Q2 := rbl Q2 hb; replace Q3 := rbl Q3 hb; replace B5 := bbl g5 hb; have B7 := am b; replace HB := bst hb; clear hb b eg; have n1 := N5_7.out; have n2 := N7_5.out; obtain ⟨⟨x0, x1, x2, x3⟩, d0, d1, d2, d3⟩ := cf4 B5.out; obtain ⟨⟨y0, y1, y2, y3⟩, m0, m1, m2, m3⟩ := cf4 B7.out) | (go_at_call 9; refine (ancepsref53_Same.calls k _ _ _ ps _ _ pl _ _ pc _ _ _ ps _ _ ql _ _ pc true _ (rC P1) (rL P1) (rC P2) (rL P2) (rC P3) (rL P3) (rC Q1) (rL Q1) (rC Q2) (rL Q2) (rC Q3) (rL Q3) HS.out).mono ?_; rintro e1 w8 ⟨rfl, hb⟩; replace HB := bst hb; clear hb))
  go_ret
  exact ⟨rr, bel⟩
 ·intro hCont
  refine twA 1 8 ?_ ?_
  ·intro K hK
   refine kcal hK Tryz.func7 #[.agg #[.string a0_0, .slice A0_1 l0_1.length c0_1, .slice A0_2 l0_2.length c0_2, .slice A0_3 l0_3.length c0_3]] ?_
   refine (ancepslaw53_own.calls _ _ _ l0_1 _ _ l0_2 _ _ l0_3 _ _ _ _ _ rdb aso rdb aso rdb aso OA.out).mono ?_
   rintro e1 w5 ⟨v1, v2, v3, rfl, ho1, ho2, ho3, hb⟩
   have a1 := rlo ho1
   have a2 := rlo ho2
   have a3 := rlo ho3
   replace B2 := bbl g2 hb
   replace B3 := bbl g3 hb
   replace HB := bst hb
   obtain ⟨pa1, qa1, rfl⟩ := Kd.R_slice a1.out
   obtain ⟨pa2, qa2, rfl⟩ := Kd.R_slice a2.out
   obtain ⟨pa3, qa3, rfl⟩ := Kd.R_slice a3.out
   clear hb ho1 ho2 ho3 hS
   refine ⟨_, rfl, ⟨hc 0, hc 1, hc 2, hc 3, hc 0, hc 1, hc 2, hc 3⟩, fun hS => nrm ?_⟩
   refine twA 3 8 ?_ ?_
   ·intro K hK
    refine kcal hK Tryz.func7 #[.agg #[.string a1_0, .slice A1_1 l1_1.length c1_1, .slice A1_2 l1_2.length c1_2, .slice A1_3 l1_3.length c1_3]] ?_
    refine (ancepslaw53_own.calls _ _ _ l1_1 _ _ l1_2 _ _ l1_3 _ _ _ _ _ rdb aso rdb aso rdb aso OB.out).mono ?_
    rintro e1 w5 ⟨v1, v2, v3, rfl, ho1, ho2, ho3, hb⟩
    have b1 := rlo ho1
    have b2 := rlo ho2
    have b3 := rlo ho3
    replace a1 := rbl a1 hb
    replace a2 := rbl a2 hb
    replace a3 := rbl a3 hb
    replace B2 := bbl g2 hb
    replace B3 := bbl g3 hb
    replace HB := bst hb
    obtain ⟨pb1, qb1, rfl⟩ := Kd.R_slice b1.out
    obtain ⟨pb2, qb2, rfl⟩ := Kd.R_slice b2.out
    obtain ⟨pb3, qb3, rfl⟩ := Kd.R_slice b3.out
    clear hb ho1 ho2 ho3 hS
    refine ⟨_, rfl, ⟨hc 0, hc 1, hc 2, hc 3, hc 0, hc 1, hc 2, hc 3⟩, fun hS => nrm ?_⟩
    refine twA 4 8 ?_ ?_
    ·intro K hK
     refine kcal hK Tryz.func6 #[.agg #[.string a0_0, .slice pa1 l0_1.length qa1, .slice pa2 l0_2.length qa2, .slice pa3 l0_3.length qa3], .agg #[.string a1_0, .slice pb1 l1_1.length qb1, .slice pb2 l1_2.length qb2, .slice pb3 l1_3.length qb3]] ?_
     refine (profile_Merge.calls k _ _ _ l0_1 _ _ l0_2 _ _ l0_3 _ _ _ l1_1 _ _ l1_2 _ _ l1_3 p ps pl pc e _ (rC a1) (rL a1) (rC a2) (rL a2) (rC a3) (rL a3) (rC b1) (rL b1) (rC b2) (rL b2) (rC b3) (rL b3) HM.out).mono ?_
     rintro e1 w5 ⟨v1, v2, v3, rfl, ho1, ho2, ho3, hb⟩
     have P1 := rlo ho1
     have P2 := rlo ho2
     have P3 := rlo ho3
     replace B2 := bbl g2 hb
     replace B3 := bbl g3 hb
     replace HB := bst hb
     clear a1 a2 a3 b1 b2 b3
     obtain ⟨pP1, qP1, rfl⟩ := Kd.R_slice P1.out
     obtain ⟨pP2, qP2, rfl⟩ := Kd.R_slice P2.out
     obtain ⟨pP3, qP3, rfl⟩ := Kd.R_slice P3.out
     clear hb ho1 ho2 ho3 hS
     refine ⟨_, rfl, ⟨hc 0, hc 1, hc 2, hc 3, hc 0, hc 1, hc 2, hc 3⟩, fun hS => nrm ?_⟩
     refine pu 5 ?_
     refine pu 6 ?_
     refine pu 7 ?_
     refine onA 8 ?_
     intro K hK
     refine kbx hK #[.string ⟨#[]⟩, .slice none 0 0, .slice none 0 0, .slice none 0 0] 28 ?_
     intro g5 eg w5 b5 hb
     have G5 := szl eg
     have N2_5 := nel g2 eg
     have N5_2 := ner g2 eg
     have N3_5 := nel g3 eg
     have N5_3 := ner g3 eg
     replace P1 := rbl P1 hb
     replace P2 := rbl P2 hb
     replace P3 := rbl P3 hb
     replace B2 := bbl g2 hb
     replace B3 := bbl g3 hb
     replace HB := bst hb
     have B5 := am b5
     clear hb b5 eg hS
     refine ⟨⟨hc 0, hc 1, hc 2, hc 3, hc 0, hc 1, hc 2, hc 3⟩, fun hS => nrm ?_⟩
     exact nrp (hCont (.agg #[.string a0_0, .slice pa1 l0_1.length qa1, .slice pa2 l0_2.length qa2, .slice pa3 l0_3.length qa3], .agg #[.string a1_0, .slice pb1 l1_1.length qb1, .slice pb2 l1_2.length qb2, .slice pb3 l1_3.length qb3], .agg #[.string p, .slice pP1 ps.length qP1, .slice pP2 pl.length qP2, .slice pP3 pc.length qP3], g5) _ ⟨hS, ⟨_, _, _, rfl, P1, P2, P3⟩, B5, B2, B3, HB, G5, N2_5, N5_2, N3_5, N5_3⟩)
    ·intro K hK
     refine kbx hK #[.string ⟨#[]⟩, .slice none 0 0, .slice none 0 0, .slice none 0 0] 28 ?_
     intro g5 eg w5 b5 hb
     have G5 := szl eg
     have N2_5 := nel g2 eg
     have N5_2 := ner g2 eg
     have N3_5 := nel g3 eg
     have N5_3 := ner g3 eg
     replace a1 := rbl a1 hb
     replace a2 := rbl a2 hb
     replace a3 := rbl a3 hb
     replace b1 := rbl b1 hb
     replace b2 := rbl b2 hb
     replace b3 := rbl b3 hb
     replace B2 := bbl g2 hb
     replace B3 := bbl g3 hb
     replace HB := bst hb
     have B5 := am b5
     clear hb b5 eg hS
     refine ⟨⟨hc 0, hc 1, hc 2, hc 3, hc 0, hc 1, hc 2, hc 3⟩, fun hS => nrm ?_⟩
     refine onA 4 ?_
     intro K hK
     refine kcal hK Tryz.func6 #[.agg #[.string a0_0, .slice pa1 l0_1.length qa1, .slice pa2 l0_2.length qa2, .slice pa3 l0_3.length qa3], .agg #[.string a1_0, .slice pb1 l1_1.length qb1, .slice pb2 l1_2.length qb2, .slice pb3 l1_3.length qb3]] ?_
     refine (profile_Merge.calls k _ _ _ l0_1 _ _ l0_2 _ _ l0_3 _ _ _ l1_1 _ _ l1_2 _ _ l1_3 p ps pl pc e _ (rC a1) (rL a1) (rC a2) (rL a2) (rC a3) (rL a3) (rC b1) (rL b1) (rC b2) (rL b2) (rC b3) (rL b3) HM.out).mono ?_
     rintro e1 w5 ⟨v1, v2, v3, rfl, ho1, ho2, ho3, hb⟩
     have P1 := rlo ho1
     have P2 := rlo ho2
     have P3 := rlo ho3
     replace B2 := bbl g2 hb
     replace B3 := bbl g3 hb
     replace B5 := bbl g5 hb
     replace HB := bst hb
     clear a1 a2 a3 b1 b2 b3
     obtain ⟨pP1, qP1, rfl⟩ := Kd.R_slice P1.out
     obtain ⟨pP2, qP2, rfl⟩ := Kd.R_slice P2.out
     obtain ⟨pP3, qP3, rfl⟩ := Kd.R_slice P3.out
     clear hb ho1 ho2 ho3 hS
     refine ⟨_, rfl, ⟨hc 0, hc 1, hc 2, hc 3, hc 0, hc 1, hc 2, hc 3⟩, fun hS => nrm ?_⟩
     refine pu 5 ?_
     refine pu 6 ?_
     refine pu 7 ?_
     exact nrp (hCont (.agg #[.string a0_0, .slice pa1 l0_1.length qa1, .slice pa2 l0_2.length qa2, .slice pa3 l0_3.length qa3], .agg #[.string a1_0, .slice pb1 l1_1.length qb1, .slice pb2 l1_2.length qb2, .slice pb3 l1_3.length qb3], .agg #[.string p, .slice pP1 ps.length qP1, .slice pP2 pl.length qP2, .slice pP3 pc.length qP3], g5) _ ⟨hS, ⟨_, _, _, rfl, P1, P2, P3⟩, B5, B2, B3, HB, G5, N2_5, N5_2, N3_5, N5_3⟩)
   ·intro K hK
    refine kbx hK #[.string ⟨#[]⟩, .slice none 0 0, .slice none 0 0, .slice none 0 0] 28 ?_
    intro g5 eg w5 b5 hb
    have G5 := szl eg
    have N2_5 := nel g2 eg
    have N5_2 := ner g2 eg
    have N3_5 := nel g3 eg
    have N5_3 := ner g3 eg
    replace a1 := rbl a1 hb
    replace a2 := rbl a2 hb
    replace a3 := rbl a3 hb
    replace B2 := bbl g2 hb
    replace B3 := bbl g3 hb
    replace HB := bst hb
    have B5 := am b5
    clear hb b5 eg hS
    refine ⟨⟨hc 0, hc 1, hc 2, hc 3, hc 0, hc 1, hc 2, hc 3⟩, fun hS => nrm ?_⟩
    refine onA 3 ?_
    intro K hK
    refine kcal hK Tryz.func7 #[.agg #[.string a1_0, .slice A1_1 l1_1.length c1_1, .slice A1_2 l1_2.length c1_2, .slice A1_3 l1_3.length c1_3]] ?_
    refine (ancepslaw53_own.calls _ _ _ l1_1 _ _ l1_2 _ _ l1_3 _ _ _ _ _ rdb aso rdb aso rdb aso OB.out).mono ?_
    rintro e1 w5 ⟨v1, v2, v3, rfl, ho1, ho2, ho3, hb⟩
    have b1 := rlo ho1
    have b2 := rlo ho2
    have b3 := rlo ho3
    replace a1 := rbl a1 hb
    replace a2 := rbl a2 hb
    replace a3 := rbl a3 hb
    replace B2 := bbl g2 hb
    replace B3 := bbl g3 hb
    replace B5 := bbl g5 hb
    replace HB := bst hb
    obtain ⟨pb1, qb1, rfl⟩ := Kd.R_slice b1.out
    obtain ⟨pb2, qb2, rfl⟩ := Kd.R_slice b2.out
    obtain ⟨pb3, qb3, rfl⟩ := Kd.R_slice b3.out
    clear hb ho1 ho2 ho3 hS
    refine ⟨_, rfl, ⟨hc 0, hc 1, hc 2, hc 3, hc 0, hc 1, hc 2, hc 3⟩, fun hS => nrm ?_⟩
    refine onA 4 ?_
    intro K hK
    refine kcal hK Tryz.func6 #[.agg #[.string a0_0, .slice pa1 l0_1.length qa1, .slice pa2 l0_2.length qa2, .slice pa3 l0_3.length qa3], .agg #[.string a1_0, .slice pb1 l1_1.length qb1, .slice pb2 l1_2.length qb2, .slice pb3 l1_3.length qb3]] ?_
    refine (profile_Merge.calls k _ _ _ l0_1 _ _ l0_2 _ _ l0_3 _ _ _ l1_1 _ _ l1_2 _ _ l1_3 p ps pl pc e _ (rC a1) (rL a1) (rC a2) (rL a2) (rC a3) (rL a3) (rC b1) (rL b1) (rC b2) (rL b2) (rC b3) (rL b3) HM.out).mono ?_
    rintro e1 w5 ⟨v1, v2, v3, rfl, ho1, ho2, ho3, hb⟩
    have P1 := rlo ho1
    have P2 := rlo ho2
    have P3 := rlo ho3
    replace B2 := bbl g2 hb
    replace B3 := bbl g3 hb
    replace B5 := bbl g5 hb
    replace HB := bst hb
    clear a1 a2 a3 b1 b2 b3
    obtain ⟨pP1, qP1, rfl⟩ := Kd.R_slice P1.out
    obtain ⟨pP2, qP2, rfl⟩ := Kd.R_slice P2.out
    obtain ⟨pP3, qP3, rfl⟩ := Kd.R_slice P3.out
    clear hb ho1 ho2 ho3 hS
    refine ⟨_, rfl, ⟨hc 0, hc 1, hc 2, hc 3, hc 0, hc 1, hc 2, hc 3⟩, fun hS => nrm ?_⟩
    refine pu 5 ?_
    refine pu 6 ?_
    refine pu 7 ?_
    exact nrp (hCont (.agg #[.string a0_0, .slice pa1 l0_1.length qa1, .slice pa2 l0_2.length qa2, .slice pa3 l0_3.length qa3], .agg #[.string a1_0, .slice pb1 l1_1.length qb1, .slice pb2 l1_2.length qb2, .slice pb3 l1_3.length qb3], .agg #[.string p, .slice pP1 ps.length qP1, .slice pP2 pl.length qP2, .slice pP3 pc.length qP3], g5) _ ⟨hS, ⟨_, _, _, rfl, P1, P2, P3⟩, B5, B2, B3, HB, G5, N2_5, N5_2, N3_5, N5_3⟩)
  ·intro K hK
   refine kbx hK #[.string ⟨#[]⟩, .slice none 0 0, .slice none 0 0, .slice none 0 0] 28 ?_
   intro g5 eg w5 b5 hb
   have G5 := szl eg
   have N2_5 := nel g2 eg
   have N5_2 := ner g2 eg
   have N3_5 := nel g3 eg
   have N5_3 := ner g3 eg
   replace B2 := bbl g2 hb
   replace B3 := bbl g3 hb
   replace HB := bst hb
   have B5 := am b5
   clear hb b5 eg hS
   refine ⟨⟨hc 0, hc 1, hc 2, hc 3, hc 0, hc 1, hc 2, hc 3⟩, fun hS => nrm ?_⟩
   refine onA 1 ?_
   intro K hK
   refine kcal hK Tryz.func7 #[.agg #[.string a0_0, .slice A0_1 l0_1.length c0_1, .slice A0_2 l0_2.length c0_2, .slice A0_3 l0_3.length c0_3]] ?_
   refine (ancepslaw53_own.calls _ _ _ l0_1 _ _ l0_2 _ _ l0_3 _ _ _ _ _ rdb aso rdb aso rdb aso OA.out).mono ?_
   rintro e1 w5 ⟨v1, v2, v3, rfl, ho1, ho2, ho3, hb⟩
   have a1 := rlo ho1
   have a2 := rlo ho2
   have a3 := rlo ho3
   replace B2 := bbl g2 hb
   replace B3 := bbl g3 hb
   replace B5 := bbl g5 hb
   replace HB := bst hb
   obtain ⟨pa1, qa1, rfl⟩ := Kd.R_slice a1.out
   obtain ⟨pa2, qa2, rfl⟩ := Kd.R_slice a2.out
   obtain ⟨pa3, qa3, rfl⟩ := Kd.R_slice a3.out
   clear hb ho1 ho2 ho3 hS
   refine ⟨_, rfl, ⟨hc 0, hc 1, hc 2, hc 3, hc 0, hc 1, hc 2, hc 3⟩, fun hS => nrm ?_⟩
   refine onA 3 ?_
   intro K hK
   refine kcal hK Tryz.func7 #[.agg #[.string a1_0, .slice A1_1 l1_1.length c1_1, .slice A1_2 l1_2.length c1_2, .slice A1_3 l1_3.length c1_3]] ?_
   refine (ancepslaw53_own.calls _ _ _ l1_1 _ _ l1_2 _ _ l1_3 _ _ _ _ _ rdb aso rdb aso rdb aso OB.out).mono ?_
   rintro e1 w5 ⟨v1, v2, v3, rfl, ho1, ho2, ho3, hb⟩
   have b1 := rlo ho1
   have b2 := rlo ho2
   have b3 := rlo ho3
   replace a1 := rbl a1 hb
   replace a2 := rbl a2 hb
   replace a3 := rbl a3 hb
   replace B2 := bbl g2 hb
   replace B3 := bbl g3 hb
   replace B5 := bbl g5 hb
   replace HB := bst hb
   obtain ⟨pb1, qb1, rfl⟩ := Kd.R_slice b1.out
   obtain ⟨pb2, qb2, rfl⟩ := Kd.R_slice b2.out
   obtain ⟨pb3, qb3, rfl⟩ := Kd.R_slice b3.out
   clear hb ho1 ho2 ho3 hS
   refine ⟨_, rfl, ⟨hc 0, hc 1, hc 2, hc 3, hc 0, hc 1, hc 2, hc 3⟩, fun hS => nrm ?_⟩
   refine onA 4 ?_
   intro K hK
   refine kcal hK Tryz.func6 #[.agg #[.string a0_0, .slice pa1 l0_1.length qa1, .slice pa2 l0_2.length qa2, .slice pa3 l0_3.length qa3], .agg #[.string a1_0, .slice pb1 l1_1.length qb1, .slice pb2 l1_2.length qb2, .slice pb3 l1_3.length qb3]] ?_
   refine (profile_Merge.calls k _ _ _ l0_1 _ _ l0_2 _ _ l0_3 _ _ _ l1_1 _ _ l1_2 _ _ l1_3 p ps pl pc e _ (rC a1) (rL a1) (rC a2) (rL a2) (rC a3) (rL a3) (rC b1) (rL b1) (rC b2) (rL b2) (rC b3) (rL b3) HM.out).mono ?_
   rintro e1 w5 ⟨v1, v2, v3, rfl, ho1, ho2, ho3, hb⟩
   have P1 := rlo ho1
   have P2 := rlo ho2
   have P3 := rlo ho3
   replace B2 := bbl g2 hb
   replace B3 := bbl g3 hb
   replace B5 := bbl g5 hb
   replace HB := bst hb
   clear a1 a2 a3 b1 b2 b3
   obtain ⟨pP1, qP1, rfl⟩ := Kd.R_slice P1.out
   obtain ⟨pP2, qP2, rfl⟩ := Kd.R_slice P2.out
   obtain ⟨pP3, qP3, rfl⟩ := Kd.R_slice P3.out
   clear hb ho1 ho2 ho3 hS
   refine ⟨_, rfl, ⟨hc 0, hc 1, hc 2, hc 3, hc 0, hc 1, hc 2, hc 3⟩, fun hS => nrm ?_⟩
   refine pu 5 ?_
   refine pu 6 ?_
   refine pu 7 ?_
   exact nrp (hCont (.agg #[.string a0_0, .slice pa1 l0_1.length qa1, .slice pa2 l0_2.length qa2, .slice pa3 l0_3.length qa3], .agg #[.string a1_0, .slice pb1 l1_1.length qb1, .slice pb2 l1_2.length qb2, .slice pb3 l1_3.length qb3], .agg #[.string p, .slice pP1 ps.length qP1, .slice pP2 pl.length qP2, .slice pP3 pc.length qP3], g5) _ ⟨hS, ⟨_, _, _, rfl, P1, P2, P3⟩, B5, B2, B3, HB, G5, N2_5, N5_2, N3_5, N5_3⟩)
end Go.Proofs.YtolenfcngomdfaaGreatDoor.V
