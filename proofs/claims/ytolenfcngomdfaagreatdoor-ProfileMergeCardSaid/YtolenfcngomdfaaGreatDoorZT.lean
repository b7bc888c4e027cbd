/- A part of the proof of the tied card of ProfileMerge (chapter 53): the law returns true whatever the input. -/
import Derived.Test.YtolenfcngomdfaaGreatDoorZS
import Derived.Test.YtolenfcngomdfaaGreatDoorZHA
import Derived.Test.YtolenfcngomdfaaGreatDoorZU6
set_option linter.unusedVariables false
set_option linter.unusedSimpArgs false
namespace Go.Proofs.YtolenfcngomdfaaGreatDoor.V
open Go.RowKit Go.Proofs.YtolenfcngomdfaaGreatDoorW.PrintWords Go.Proofs.YtolenfcngomdfaaGreatDoorW.PrintLast Go.Proofs.YtolenfcngomdfaaGreatDoorW.PrintMore
set_option linter.unusedVariables false
set_option linter.unusedSimpArgs false
set_option maxHeartbeats 8000000
set_option maxRecDepth 100000
mutual
def tally_Merge.l0 : Nat → Int → Int → List ByteArray → List Int → List ByteArray → List Int → List ByteArray → List Int → Option (List ByteArray × List Int × Int)
 | 0, _, _, _, _, _, _, _, _ => none
 | k + 1, x8, x9, x295000, x295001, x296000, x296001, x299000, x299001 => if x8 < (x295000.length : Int) then (tally_Merge.j1 k x8 x9 true x295000 x295001 x296000 x296001 x299000 x299001) else (tally_Merge.j1 k x8 x9 (decide (x9 < (x296000.length : Int))) x295000 x295001 x296000 x296001 x299000 x299001)
def tally_Merge.j1 : Nat → Int → Int → Bool → List ByteArray → List Int → List ByteArray → List Int → List ByteArray → List Int → Option (List ByteArray × List Int × Int)
 | 0, _, _, _, _, _, _, _, _, _ => none
 | k + 1, x8, x9, x28, x295000, x295001, x296000, x296001, x299000, x299001 => if x28 = true then (if x9 = (x296000.length : Int) then (tally_Merge.j2 k x8 x9 true x295000 x295001 x296000 x296001 x299000 x299001) else (if x8 < (x295000.length : Int) then (if 0 ≤ x8 then (if 0 ≤ x9 then (if x9 < (x296000.length : Int) then (tally_Merge.j2 k x8 x9 (Op.bytesLess ((rdOf ByteArray.empty x295000 x8).toList) ((rdOf ByteArray.empty x296000 x9).toList)) x295000 x295001 x296000 x296001 x299000 x299001) else (none)) else (none)) else (none)) else (tally_Merge.j2 k x8 x9 false x295000 x295001 x296000 x296001 x299000 x299001))) else ((tally_large.f x299000 x299001).bind fun t299 => (if t299 = true then (some (([] : List ByteArray), ([] : List Int), 3)) else (some (x299000, x299001, 0))))
def tally_Merge.j2 : Nat → Int → Int → Bool → List ByteArray → List Int → List ByteArray → List Int → List ByteArray → List Int → Option (List ByteArray × List Int × Int)
 | 0, _, _, _, _, _, _, _, _, _ => none
 | k + 1, x8, x9, x59, x295000, x295001, x296000, x296001, x299000, x299001 => if x59 = true then (if 0 ≤ x8 then (if x8 < (x295000.length : Int) then ((some (([rdOf ByteArray.empty x295000 x8] : List ByteArray) : List ByteArray)).bind fun y303 => (if x299000.length + y303.length < 8796093022208 then (if x8 < (x295001.length : Int) then ((some (([rd x295001 x8] : List Int) : List Int)).bind fun y310 => (if x299001.length + y310.length < 17592186044416 then (tally_Merge.l0 k (wrap64 (x8 + 1)) x9 x295000 x295001 x296000 x296001 (x299000 ++ y303) (x299001 ++ y310)) else (none))) else (none)) else (none))) else (none)) else (none)) else (if x8 = (x295000.length : Int) then (if 0 ≤ x9 then (if x9 < (x296000.length : Int) then ((some (([rdOf ByteArray.empty x296000 x9] : List ByteArray) : List ByteArray)).bind fun y317 => (if x299000.length + y317.length < 8796093022208 then (if x9 < (x296001.length : Int) then ((some (([rd x296001 x9] : List Int) : List Int)).bind fun y324 => (if x299001.length + y324.length < 17592186044416 then (tally_Merge.l0 k x8 (wrap64 (x9 + 1)) x295000 x295001 x296000 x296001 (x299000 ++ y317) (x299001 ++ y324)) else (none))) else (none)) else (none))) else (none)) else (none)) else (if 0 ≤ x9 then (if x9 < (x296000.length : Int) then (if 0 ≤ x8 then (if x8 < (x295000.length : Int) then (if (Op.bytesLess ((rdOf ByteArray.empty x296000 x9).toList) ((rdOf ByteArray.empty x295000 x8).toList)) = true then ((some (([rdOf ByteArray.empty x296000 x9] : List ByteArray) : List ByteArray)).bind fun y333 => (if x299000.length + y333.length < 8796093022208 then (if x9 < (x296001.length : Int) then ((some (([rd x296001 x9] : List Int) : List Int)).bind fun y340 => (if x299001.length + y340.length < 17592186044416 then (tally_Merge.l0 k x8 (wrap64 (x9 + 1)) x295000 x295001 x296000 x296001 (x299000 ++ y333) (x299001 ++ y340)) else (none))) else (none)) else (none))) else ((some (([rdOf ByteArray.empty x295000 x8] : List ByteArray) : List ByteArray)).bind fun y347 => (if x299000.length + y347.length < 8796093022208 then (if x8 < (x295001.length : Int) then (if x9 < (x296001.length : Int) then ((some (([wrap64 ((rd x295001 x8) + (rd x296001 x9))] : List Int) : List Int)).bind fun y355 => (if x299001.length + y355.length < 17592186044416 then (tally_Merge.l0 k (wrap64 (x8 + 1)) (wrap64 (x9 + 1)) x295000 x295001 x296000 x296001 (x299000 ++ y347) (x299001 ++ y355)) else (none))) else (none)) else (none)) else (none)))) else (none)) else (none)) else (none)) else (none)))
end
def tally_Merge.f (k : Nat) (l0_0 : List ByteArray) (l0_1 : List Int) (l1_0 : List ByteArray) (l1_1 : List Int) : Option (List ByteArray × List Int × Int) := (tally_both.f k l0_0 l0_1 l1_0 l1_1).bind fun t297 => (if t297 = 0 then (tally_Merge.l0 k 0 0 l0_0 l0_1 l1_0 l1_1 ([] : List ByteArray) ([] : List Int)) else (some (([] : List ByteArray), ([] : List Int), t297)))
def tally_Merge.t (b : Bool) (k : Nat) (i j : Int) (l0_0 : List ByteArray) (l0_1 : List Int) (l1_0 : List ByteArray) (l1_1 : List Int) (o : List ByteArray) (oc : List Int) : Option (List ByteArray × List Int × Int) := if b = true then (if 0 ≤ j then (if j < (l1_0.length : Int) then ((some (([rdOf ByteArray.empty l1_0 j] : List ByteArray) : List ByteArray)).bind fun y => (if o.length + y.length < 8796093022208 then (if j < (l1_1.length : Int) then ((some (([rd l1_1 j] : List Int) : List Int)).bind fun z => (if oc.length + z.length < 17592186044416 then (tally_Merge.l0 k i (wrap64 (j + 1)) l0_0 l0_1 l1_0 l1_1 (o ++ y) (oc ++ z)) else (none))) else (none)) else (none))) else none) else none) else (if 0 ≤ j then (if j < (l1_0.length : Int) then (if 0 ≤ i then (if i < (l0_0.length : Int) then ((some (([rdOf ByteArray.empty l0_0 i] : List ByteArray) : List ByteArray)).bind fun y => (if o.length + y.length < 8796093022208 then (if i < (l0_1.length : Int) then (if j < (l1_1.length : Int) then ((some (([wrap64 ((rd l0_1 i) + (rd l1_1 j))] : List Int) : List Int)).bind fun z => (if oc.length + z.length < 17592186044416 then (tally_Merge.l0 k (wrap64 (i + 1)) (wrap64 (j + 1)) l0_0 l0_1 l1_0 l1_1 (o ++ y) (oc ++ z)) else (none))) else (none)) else (none)) else (none))) else none) else none) else none) else none)
def tally_Merge.T7 : Bool × List (List Nat × List Nat) := (true, [([], []), ([0], [0]), ([], []), ([2], [2]), ([], []), ([3, 4], [3, 4]), ([5], [5]), ([6], [6]), ([1, 7], [1, 7]), ([], []), ([9], [9]), ([], []), ([11], [11]), ([], []), ([12, 13], [12, 13]), ([14], [14]), ([], []), ([16], [16]), ([], []), ([17, 18], [17, 18]), ([19], [19]), ([15, 20], [15, 20]), ([21], [21]), ([10, 22, 8], [10, 22]), ([0, 1, 2, 3, 4, 5, 6, 7, 8, 9, 10], []), ([24, 8, 23, 0, 1, 2, 3, 4, 5, 6, 7, 8, 9, 10], [8, 24]), ([0, 1, 2, 3, 4, 5, 6, 7, 8, 9, 10, 11, 12, 13, 14, 15, 16, 17, 18, 19, 20, 21, 22, 23, 24, 25], []), ([26, 23, 25, 0, 1, 2, 3, 4, 5, 6, 7, 8, 9, 10, 11, 12, 13, 14, 15, 16, 17, 18, 19, 20, 21, 22, 23, 24, 25], [23, 26])])
def tally_Merge.B7 : List Nat := [0, 1, 0, 4, 0, 28, 60, 124, 255, 0, 512, 0, 2048, 0, 14336, 30720, 0, 65536, 0, 458752, 983040, 2095104, 4192256, 8388607, 2047, 33554431, 67108863, 134217727]
theorem tally_Merge.tab7 : rtab .any (opsOf Tryz.f21 7) = tally_Merge.T7 := by kernel_rfl
theorem tally_Merge.bits7 : waitsOk tally_Merge.T7.2 tally_Merge.B7 = true := by kernel_rfl
def tally_Merge.T9 : Bool × List (List Nat × List Nat) := (true, [([], []), ([], []), ([1], [1]), ([2], [2]), ([0, 3], [0, 3]), ([4], [4]), ([5], [5]), ([5], [5]), ([7, 5], [5, 7]), ([8, 5], [5, 8]), ([6, 9, 5], [5, 6, 9]), ([10, 5, 5], [5, 10]), ([11], [11]), ([12, 11], [11, 12]), ([11], [11]), ([13, 14, 11], [11, 13, 14]), ([15, 11], [11, 15]), ([11], [11]), ([17, 11], [11, 17]), ([11], [11]), ([18, 19, 11], [11, 18, 19]), ([20, 11], [11, 20]), ([16, 21, 11], [11, 16, 21]), ([11, 22, 5], [5, 11, 22]), ([5, 23], [5, 23]), ([24, 11], [24])])
def tally_Merge.B9 : List Nat := [0, 0, 2, 6, 15, 31, 63, 63, 191, 447, 1023, 2047, 4095, 8191, 4095, 32767, 65535, 4095, 135167, 4095, 921599, 1970175, 4194303, 8388607, 16777215, 33554431]
theorem tally_Merge.tab9 : rtab .any (opsOf Tryz.f21 9) = tally_Merge.T9 := by kernel_rfl
theorem tally_Merge.bits9 : waitsOk tally_Merge.T9.2 tally_Merge.B9 = true := by kernel_rfl
def tally_Merge.T10 : Bool × List (List Nat × List Nat) := (true, [([], []), ([0], [0]), ([], []), ([2], [2]), ([], []), ([3, 4], [3, 4]), ([5], [5]), ([6], [6]), ([1, 7], [1, 7]), ([], []), ([9], [9]), ([], []), ([11], [11]), ([], []), ([12, 13], [12, 13]), ([14], [14]), ([15], [15]), ([10, 16, 8], [10, 16]), ([0, 1, 2, 3, 4, 5, 6, 7, 8, 9, 10], []), ([18, 8, 17, 0, 1, 2, 3, 4, 5, 6, 7, 8, 9, 10], [8, 18]), ([0, 1, 2, 3, 4, 5, 6, 7, 8, 9, 10, 11, 12, 13, 14, 15, 16, 17, 18, 19], []), ([20, 17, 19, 0, 1, 2, 3, 4, 5, 6, 7, 8, 9, 10, 11, 12, 13, 14, 15, 16, 17, 18, 19], [17, 20])])
def tally_Merge.B10 : List Nat := [0, 1, 0, 4, 0, 28, 60, 124, 255, 0, 512, 0, 2048, 0, 14336, 30720, 63488, 131071, 2047, 524287, 1048575, 2097151]
theorem tally_Merge.tab10 : rtab .any (opsOf Tryz.f21 10) = tally_Merge.T10 := by kernel_rfl
theorem tally_Merge.bits10 : waitsOk tally_Merge.T10.2 tally_Merge.B10 = true := by kernel_rfl
def tally_Merge.T12 : Bool × List (List Nat × List Nat) := (true, [([], []), ([], []), ([1], [1]), ([2], [2]), ([0, 3], [0, 3]), ([4], [4]), ([5], [5]), ([6, 5], [5, 6]), ([5], [5]), ([7, 8, 5], [5, 7, 8]), ([9, 5], [5, 9]), ([5], [5]), ([11, 5], [5, 11]), ([5], [5]), ([12, 13, 5], [5, 12, 13]), ([14, 5], [5, 14]), ([10, 15, 5], [5, 10, 15]), ([5, 16], [5, 16]), ([17, 5], [17])])
def tally_Merge.B12 : List Nat := [0, 0, 2, 6, 15, 31, 63, 127, 63, 511, 1023, 63, 2111, 63, 14399, 30783, 65535, 131071, 262143]
theorem tally_Merge.tab12 : rtab .any (opsOf Tryz.f21 12) = tally_Merge.T12 := by kernel_rfl
theorem tally_Merge.bits12 : waitsOk tally_Merge.T12.2 tally_Merge.B12 = true := by kernel_rfl
def tally_Merge.T13 : Bool × List (List Nat × List Nat) := (true, [([], []), ([0], [0]), ([], []), ([2], [2]), ([], []), ([3, 4], [3, 4]), ([5], [5]), ([6], [6]), ([1, 7], [1, 7]), ([], []), ([9], [9]), ([], []), ([11], [11]), ([], []), ([12, 13], [12, 13]), ([14], [14]), ([15], [15]), ([10, 16, 8], [10, 16]), ([0, 1, 2, 3, 4, 5, 6, 7, 8, 9, 10], []), ([18, 8, 17, 0, 1, 2, 3, 4, 5, 6, 7, 8, 9, 10], [8, 18]), ([0, 1, 2, 3, 4, 5, 6, 7, 8, 9, 10, 11, 12, 13, 14, 15, 16, 17, 18, 19], []), ([20, 17, 19, 0, 1, 2, 3, 4, 5, 6, 7, 8, 9, 10, 11, 12, 13, 14, 15, 16, 17, 18, 19], [17, 20])])
def tally_Merge.B13 : List Nat := [0, 1, 0, 4, 0, 28, 60, 124, 255, 0, 512, 0, 2048, 0, 14336, 30720, 63488, 131071, 2047, 524287, 1048575, 2097151]
theorem tally_Merge.tab13 : rtab .any (opsOf Tryz.f21 13) = tally_Merge.T13 := by kernel_rfl
theorem tally_Merge.bits13 : waitsOk tally_Merge.T13.2 tally_Merge.B13 = true := by kernel_rfl
theorem tally_Merge.calls (k : Nat) (A0_0 : Option Addr) (c0_0 : Nat) (l0_0 : List ByteArray) (A0_1 : Option Addr) (c0_1 : Nat) (l0_1 : List Int) (A1_0 : Option Addr) (c1_0 : Nat) (l1_0 : List ByteArray) (A1_1 : Option Addr) (c1_1 : Nat) (l1_1 : List Int) (r1 : List ByteArray) (r2 : List Int) (r3 : Int) (w : World) (hr0_0 : Kd.C Kd.string w A0_0 l0_0.length l0_0) (hc0_0 : l0_0.length ≤ c0_0) (hr0_1 : Kd.C (Kd.int .i64) w A0_1 l0_1.length l0_1) (hc0_1 : l0_1.length ≤ c0_1) (hr1_0 : Kd.C Kd.string w A1_0 l1_0.length l1_0) (hc1_0 : l1_0.length ≤ c1_0) (hr1_1 : Kd.C (Kd.int .i64) w A1_1 l1_1.length l1_1) (hc1_1 : l1_1.length ≤ c1_1) (h : tally_Merge.f k l0_0 l0_1 l1_0 l1_1 = some (r1, r2, r3)) :
  Calls Tryz.prog 21 #[.agg #[.slice A0_0 l0_0.length c0_0, .slice A0_1 l0_1.length c0_1], .agg #[.slice A1_0 l1_0.length c1_0, .slice A1_1 l1_1.length c1_1]] w fun e w' => ∃ v0_ v1_ : Value, e = .returned (.tuple #[.agg #[v0_, v1_], .int .i64 r3]) ∧ Kd.R Kd.string 9 w' w.heap.size (fun _ => True) v0_ r1 ∧ Kd.R (Kd.int .i64) 3 w' w.heap.size (fun _ => True) v1_ r2 ∧ Below w.heap.size w w' := by
 have hu26 := Tryz.underlying26
 have HB := am (Below.refl w.heap.size w)
 obtain ⟨t, A, H⟩ := bE (am h)
 clear h
 have R0_0 := am hr0_0
 have R0_1 := am hr0_1
 have C0_0 := am hc0_0
 have C0_1 := am hc0_1
 have R1_0 := am hr1_0
 have R1_1 := am hr1_1
 have C1_0 := am hc1_0
 have C1_1 := am hc1_1
 clear hr0_0 hr0_1 hc0_0 hc0_1 hr1_0 hr1_1 hc1_0 hc1_1
 go_enter Tryz.func21, Tryz.ntmps21
 go_wp2_with (first | ((with_reducible refine gate_dst (N := 2) rfl ?_); refine bxe 2 #[.slice A0_0 l0_0.length c0_0, .slice A0_1 l0_1.length c0_1] 26 ?_; intro g2 eg w1 b hb; have G2 := szl eg; have B2 := am b; replace HB := bst hb; clear hb b eg) | ((with_reducible refine gate_dst (N := 3) rfl ?_); refine bxe 3 #[.slice A1_0 l1_0.length c1_0, .slice A1_1 l1_1.length c1_1] 26 ?_; intro g3 eg w1 b hb; have G3 := szl eg; have N2_3 := nel g2 eg; have N3_2 := ner g2 eg; replace B2 := bbl g2 hb; have B3 := am b; replace HB := bst hb; clear hb b eg) | ((with_reducible refine gate_dst (N := 4) rfl ?_); refine bxe 4 #[.slice none 0 0, .slice none 0 0] 26 ?_; intro g4 eg w1 b hb; have G4 := szl eg; have N2_4 := nel g2 eg; have N4_2 := ner g2 eg; have N3_4 := nel g3 eg; have N4_3 := ner g3 eg; replace B2 := bbl g2 hb; replace B3 := bbl g3 hb; have B4 := am b; replace HB := bst hb; clear hb b eg; obtain ⟨⟨z0, z1⟩, f0, f1⟩ := cf2 B2.out; obtain ⟨⟨y0, y1⟩, d0, d1⟩ := cf2 B3.out) | (go_at_call 48; refine (tally_both.calls k _ _ l0_0 _ _ l0_1 _ _ l1_0 _ _ l1_1 t _ rdc aso rdc aso rdc aso rdc aso A.out).mono ?_; rintro e w2 ⟨rfl, hb⟩; replace B2 := bbl g2 hb; replace B3 := bbl g3 hb; replace B4 := bbl g4 hb; replace HB := bst hb; clear hb z0 z1 f0 f1 y0 y1 d0 d1; obtain ⟨⟨x0, x1⟩, c0, c1⟩ := cf2 B4.out) | ((with_reducible refine gate_dst (N := 7) rfl ?_); refine bxe 7 #[.slice none 0 0, .slice none 0 0] 26 ?_; intro g7 eg w1 b hb; have G7 := szl eg; have N2_7 := nel g2 eg; have N7_2 := ner g2 eg; have N3_7 := nel g3 eg; have N7_3 := ner g3 eg; have N4_7 := nel g4 eg; have N7_4 := ner g4 eg; replace B2 := bbl g2 hb; replace B3 := bbl g3 hb; replace B4 := bbl g4 hb; have B7 := am b; replace HB := bst hb; clear hb b eg))
 ·obtain ⟨rfl, rfl, rfl⟩ := sj3 (bT H (by assumption))
  refine bodyPost_ret (results_ct rfl _ _ g4 26 #[.slice none 0 0, .slice none 0 0] (0, 0) _ rfl (set2 sb) Tryz.underlying26 rfl (by kernel_rfl)) rfl ?_
  exact ⟨_, _, rr, rnil, rnil, bel⟩
 ·clear x0 x1 c0 c1
  replace H := bF H (by assumption)
  go_loopg [8, 9] k (fun kq v8 v9 wc => ∃ (i j : Int) (o : List ByteArray) (oc : List Int) (u0 u1 : Value), v8 = .int .i64 i ∧ v9 = .int .i64 j ∧ Aside0 (tally_Merge.l0 kq i j l0_0 l0_1 l1_0 l1_1 o oc = some (r1, r2, r3)) ∧ Aside0 (RS wc w (u0) o) ∧ Aside0 (RI wc w (u1) oc) ∧ Aside0 (wc.heap[g2]? = some (.cells #[.slice A0_0 l0_0.length c0_0, .slice A0_1 l0_1.length c0_1] 26 (0, 0))) ∧ Aside0 (wc.heap[g3]? = some (.cells #[.slice A1_0 l1_0.length c1_0, .slice A1_1 l1_1.length c1_1] 26 (0, 0))) ∧ Aside0 (wc.heap[g4]? = some (.cells #[.slice none 0 0, .slice none 0 0] 26 (0, 0))) ∧ Aside0 (wc.heap[g7]? = some (.cells #[u0, u1] 26 (0, 0))) ∧ Aside0 (Below w.heap.size w wc))
  case atStart => exact ⟨0, 0, [], [], .slice none 0 0, .slice none 0 0, rs, rs, H, ⟨rnil⟩, ⟨rnil⟩, ⟨sb⟩, ⟨sb⟩, ⟨sb⟩, ⟨sb⟩, ⟨bel⟩⟩
  case round =>
   have n1 := N2_7.out
   have n2 := N7_2.out
   have n3 := N3_7.out
   have n4 := N7_3.out
   have n5 := N4_7.out
   have n6 := N7_4.out
   clear H
   obtain ⟨i, j, o, oc, u0, u1, rfl, rfl, H, O0, O1, B2, B3, B4, B7, HB⟩ := hrel
   obtain ⟨p0, q0, rfl⟩ := Kd.R_slice O0.out
   obtain ⟨p1, q1, rfl⟩ := Kd.R_slice O1.out
   cases gk with
   | zero => exact absurd H.out (by simp [tally_Merge.l0])
   | succ k1 =>
    simp only [tally_Merge.l0] at H
    obtain ⟨⟨z0, z1⟩, f0, f1⟩ := cf2 B2.out
    obtain ⟨⟨x0, x1⟩, c0, c1⟩ := cf2 B3.out
    go_upto_region 6 with (fail)
    go_cut [28] (fun v28 wc => ∃ b : Bool, v28 = .bool b ∧ Aside0 (tally_Merge.j1 k1 i j b l0_0 l0_1 l1_0 l1_1 o oc = some (r1, r2, r3)) ∧ wc = wr)
    case first =>
     by_cases c : i < (l0_0.length : Int)
     ·have cd := decide_eq_true c
      go_wp2
      go_meet
      case rel => exact ⟨true, rs, iT H c, rfl⟩
     ·have cd := decide_eq_false c
      go_wp2
      go_meet
      case rel => exact ⟨_, rs, iF H (Int.not_lt.2 c), rfl⟩
    case rest =>
     obtain ⟨b, rfl, H, rfl⟩ := hcut
     clear z0 z1 f0 f1 x0 x1 c0 c1
     cases k1 with
     | zero => exact absurd H.out (by simp [tally_Merge.j1])
     | succ k2 =>
      simp only [tally_Merge.j1] at H
      cases b
      ·replace H := uF H rfl
       replace H := bE H
       obtain ⟨tl, A3, H⟩ := H
       obtain ⟨⟨y0, y1⟩, d0, d1⟩ := cf2 B7.out
       go_wp2_with (first | (go_at_call 49; refine (tally_large.calls _ _ o _ _ oc tl _ (rC O0) (rL O0) (rC O1) (rL O1) A3.out).mono ?_; rintro e w3 ⟨rfl, hb⟩; replace O0 := rbl O0 hb; replace O1 := rbl O1 hb; replace B2 := bbl g2 hb; replace B3 := bbl g3 hb; replace B4 := bbl g4 hb; replace B7 := bbl g7 hb; replace HB := bst hb; clear hb y0 y1 d0 d1; obtain ⟨⟨y0, y1⟩, d0, d1⟩ := cf2 B7.out; obtain ⟨⟨x0, x1⟩, c0, c1⟩ := cf2 B4.out))
       ·obtain ⟨rfl, rfl, rfl⟩ := sj3 (uT H (by assumption))
        refine bodyPost_ret (results_ct rfl _ _ g4 26 #[.slice none 0 0, .slice none 0 0] (0, 0) _ rfl (set2 sb) Tryz.underlying26 rfl (by kernel_rfl)) rfl ?_
        exact ⟨_, _, rr, rnil, rnil, bel⟩
       ·obtain ⟨rfl, rfl, rfl⟩ := sj3 (uF H (by assumption))
        refine bodyPost_ret (results_ct rfl _ _ g4 26 #[.slice p0 o.length q0, .slice p1 oc.length q1] (0, 0) _ rfl (set2 sb) Tryz.underlying26 rfl (by kernel_rfl)) rfl ?_
        exact ⟨_, _, rr, rx, rx, bel⟩
      ·replace H := uT H rfl
       go_upto_region 9 with (fail)
       go_cut [59] (fun v59 wc => ∃ b : Bool, v59 = .bool b ∧ Aside0 (tally_Merge.j2 k2 i j b l0_0 l0_1 l1_0 l1_1 o oc = some (r1, r2, r3)) ∧ Aside0 (RS wc w (.slice p0 o.length q0) o) ∧ Aside0 (RI wc w (.slice p1 oc.length q1) oc) ∧ Aside0 (wc.heap[g2]? = some (.cells #[.slice A0_0 l0_0.length c0_0, .slice A0_1 l0_1.length c0_1] 26 (0, 0))) ∧ Aside0 (wc.heap[g3]? = some (.cells #[.slice A1_0 l1_0.length c1_0, .slice A1_1 l1_1.length c1_1] 26 (0, 0))) ∧ Aside0 (wc.heap[g4]? = some (.cells #[.slice none 0 0, .slice none 0 0] 26 (0, 0))) ∧ Aside0 (wc.heap[g7]? = some (.cells #[.slice p0 o.length q0, .slice p1 oc.length q1] 26 (0, 0))) ∧ Aside0 (Below w.heap.size w wc))
       case first =>
        by_cases c : j = (l1_0.length : Int)
        ·replace H := iT H c
         have cd : (j == (l1_0.length : Int)) = true := beq_iff_eq.mpr c
         refine stt 26 (fun w' => w'.cell? ⟨g3, 0, none⟩ = some (.slice A1_0 l1_0.length c1_0)) [] _ _ tally_Merge.tab9 tally_Merge.bits9 (hc 0) fun w4 hb hS HT HW => ?_
         replace O0 := rbl O0 hb
         replace O1 := rbl O1 hb
         replace B2 := bbl g2 hb
         replace B3 := bbl g3 hb
         replace B4 := bbl g4 hb
         replace B7 := bbl g7 hb
         replace HB := bst hb
         clear hb
         refine pu 0 ?_
         refine pu 1 ?_
         refine tk 2 ?_
         refine pu 3 ?_
         refine pu 4 ?_
         refine pu 5 ?_
         refine pu 6 ?_
         refine pu 7 ?_
         refine pu 8 ?_
         refine pu 9 ?_
         refine pu 10 ?_
         refine pu 11 ?_
         refine pu 12 ?_
         refine pu 13 ?_
         refine pu 14 ?_
         refine pu 15 ?_
         refine pu 16 ?_
         refine pu 17 ?_
         refine pu 18 ?_
         refine pu 19 ?_
         refine pu 20 ?_
         refine pu 21 ?_
         refine pu 22 ?_
         refine pu 23 ?_
         refine pu 24 ?_
         refine pu 25 ?_
         refine dne ?_
         clear hS HT HW
         try go_wp2
         go_meet
         case rel => exact ⟨true, rs, H, ⟨rx⟩, ⟨rx⟩, ⟨sb⟩, ⟨sb⟩, ⟨sb⟩, ⟨sb⟩, ⟨bel⟩⟩
        ·replace H := iF H c
         have cd : (j == (l1_0.length : Int)) = false := beq_eq_false_iff_ne.mpr c
         by_cases c2 : i < (l0_0.length : Int)
         ·replace H := iT H c2
          replace H := jn H
          obtain ⟨p, H⟩ := H
          replace H := jn H
          obtain ⟨p2, H⟩ := H
          replace H := jn H
          obtain ⟨c3, H⟩ := H
          obtain ⟨ad, e0, had⟩ := Kd.at_string R0_0.out i p c2
          cases e0
          replace had := am had
          obtain ⟨ae, e0, hae⟩ := Kd.at_string R1_0.out j p2 c3
          cases e0
          replace hae := am hae
          have cd2 := decide_eq_true c2
          replace p := eq_true p
          replace p2 := eq_true p2
          replace c2 := eq_true c2
          replace c3 := eq_true c3
          refine stt 26 (fun w' => w'.cell? ⟨g3, 0, none⟩ = some (.slice (some ae) l1_0.length c1_0) ∧ w'.cell? ⟨g2, 0, none⟩ = some (.slice (some ad) l0_0.length c0_0) ∧ w'.cell? (ad.add i.toNat) = some (.string (rdOf ByteArray.empty l0_0 i)) ∧ w'.cell? (ae.add j.toNat) = some (.string (rdOf ByteArray.empty l1_0 j))) [] _ _ tally_Merge.tab9 tally_Merge.bits9 ⟨hc 0, hc 0, oc1 had, oc1 hae⟩ fun w4 hb hS HT HW => ?_
          replace O0 := rbl O0 hb
          replace O1 := rbl O1 hb
          replace B2 := bbl g2 hb
          replace B3 := bbl g3 hb
          replace B4 := bbl g4 hb
          replace B7 := bbl g7 hb
          replace HB := bst hb
          clear hb
          refine pu 0 ?_
          refine pu 1 ?_
          refine tk 2 ?_
          refine pu 3 ?_
          refine pu 4 ?_
          refine pu 5 ?_
          refine pu 6 ?_
          refine pu 7 ?_
          refine tk 8 ?_
          refine pu 9 ?_
          refine pu 10 ?_
          refine pu 11 ?_
          refine pu 12 ?_
          refine pu 14 ?_
          refine pu 17 ?_
          refine pu 19 ?_
          refine tk 13 ?_
          refine pu 15 ?_
          refine tk 16 ?_
          refine tk 18 ?_
          refine pu 20 ?_
          refine tk 21 ?_
          refine pu 22 ?_
          refine pu 23 ?_
          refine pu 24 ?_
          refine pu 25 ?_
          refine dne ?_
          clear hS HT HW
          try go_wp2
          go_meet
          case rel => exact ⟨_, rs, H, ⟨rx⟩, ⟨rx⟩, ⟨sb⟩, ⟨sb⟩, ⟨sb⟩, ⟨sb⟩, ⟨bel⟩⟩
         ·replace H := iF H c2
          have cd2 := decide_eq_false c2
          refine stt 26 (fun w' => w'.cell? ⟨g3, 0, none⟩ = some (.slice A1_0 l1_0.length c1_0) ∧ w'.cell? ⟨g2, 0, none⟩ = some (.slice A0_0 l0_0.length c0_0)) [] _ _ tally_Merge.tab9 tally_Merge.bits9 ⟨hc 0, hc 0⟩ fun w4 hb hS HT HW => ?_
          replace O0 := rbl O0 hb
          replace O1 := rbl O1 hb
          replace B2 := bbl g2 hb
          replace B3 := bbl g3 hb
          replace B4 := bbl g4 hb
          replace B7 := bbl g7 hb
          replace HB := bst hb
          clear hb
          refine pu 0 ?_
          refine pu 1 ?_
          refine tk 2 ?_
          refine pu 3 ?_
          refine pu 4 ?_
          refine pu 5 ?_
          refine pu 6 ?_
          refine pu 7 ?_
          refine tk 8 ?_
          refine pu 9 ?_
          refine pu 10 ?_
          refine pu 11 ?_
          refine pu 12 ?_
          refine pu 13 ?_
          refine pu 14 ?_
          refine pu 15 ?_
          refine pu 16 ?_
          refine pu 17 ?_
          refine pu 18 ?_
          refine pu 19 ?_
          refine pu 20 ?_
          refine pu 21 ?_
          refine pu 22 ?_
          refine pu 23 ?_
          refine pu 24 ?_
          refine pu 25 ?_
          refine dne ?_
          clear hS HT HW
          try go_wp2
          go_meet
          case rel => exact ⟨false, rs, H, ⟨rx⟩, ⟨rx⟩, ⟨sb⟩, ⟨sb⟩, ⟨sb⟩, ⟨sb⟩, ⟨bel⟩⟩
       case rest =>
        obtain ⟨b, rfl, H, O0, O1, B2, B3, B4, B7, HB⟩ := hcut
        cases k2 with
        | zero => exact absurd H.out (by simp [tally_Merge.j2])
        | succ k3 =>
         simp only [tally_Merge.j2] at H
         cases b
         ·replace H := uF H rfl
          go_upto_region 12 with (fail)
          go_cut [107] (fun v107 wc => ∃ b : Bool, v107 = .bool b ∧ Aside0 (tally_Merge.t b k3 i j l0_0 l0_1 l1_0 l1_1 o oc = some (r1, r2, r3)) ∧ Aside0 (RS wc w (.slice p0 o.length q0) o) ∧ Aside0 (RI wc w (.slice p1 oc.length q1) oc) ∧ Aside0 (wc.heap[g2]? = some (.cells #[.slice A0_0 l0_0.length c0_0, .slice A0_1 l0_1.length c0_1] 26 (0, 0))) ∧ Aside0 (wc.heap[g3]? = some (.cells #[.slice A1_0 l1_0.length c1_0, .slice A1_1 l1_1.length c1_1] 26 (0, 0))) ∧ Aside0 (wc.heap[g4]? = some (.cells #[.slice none 0 0, .slice none 0 0] 26 (0, 0))) ∧ Aside0 (wc.heap[g7]? = some (.cells #[.slice p0 o.length q0, .slice p1 oc.length q1] 26 (0, 0))) ∧ Aside0 (Below w.heap.size w wc))
          case first =>
           by_cases c : i = (l0_0.length : Int)
           ·replace H := iT H c
            have cd : (i == (l0_0.length : Int)) = true := beq_iff_eq.mpr c
            refine stt 19 (fun w' => w'.cell? ⟨g2, 0, none⟩ = some (.slice A0_0 l0_0.length c0_0)) [] _ _ tally_Merge.tab12 tally_Merge.bits12 (hc 0) fun w4 hb hS HT HW => ?_
            replace O0 := rbl O0 hb
            replace O1 := rbl O1 hb
            replace B2 := bbl g2 hb
            replace B3 := bbl g3 hb
            replace B4 := bbl g4 hb
            replace B7 := bbl g7 hb
            replace HB := bst hb
            clear hb
            refine pu 0 ?_
            refine pu 1 ?_
            refine tk 2 ?_
            refine pu 3 ?_
            refine pu 4 ?_
            refine pu 5 ?_
            refine pu 6 ?_
            refine pu 7 ?_
            refine pu 8 ?_
            refine pu 9 ?_
            refine pu 10 ?_
            refine pu 11 ?_
            refine pu 12 ?_
            refine pu 13 ?_
            refine pu 14 ?_
            refine pu 15 ?_
            refine pu 16 ?_
            refine pu 17 ?_
            refine pu 18 ?_
            refine dne ?_
            clear hS HT HW
            try go_wp2
            go_meet
            case rel => exact ⟨true, rs, ⟨(if_pos rfl).trans H.out⟩, ⟨rx⟩, ⟨rx⟩, ⟨sb⟩, ⟨sb⟩, ⟨sb⟩, ⟨sb⟩, ⟨bel⟩⟩
           ·replace H := iF H c
            have cd : (i == (l0_0.length : Int)) = false := beq_eq_false_iff_ne.mpr c
            replace H := jn H
            obtain ⟨p2, H⟩ := H
            replace H := jn H
            obtain ⟨c3, H⟩ := H
            replace H := jn H
            obtain ⟨p, H⟩ := H
            replace H := jn H
            obtain ⟨c2, H⟩ := H
            have TH : Aside0 (tally_Merge.t (Op.bytesLess (rdOf ByteArray.empty l1_0 j).toList (rdOf ByteArray.empty l0_0 i).toList) k3 i j l0_0 l0_1 l1_0 l1_1 o oc = some (r1, r2, r3)) := ⟨by unfold tally_Merge.t; simp only [if_pos p, if_pos p2, if_pos c2, if_pos c3]; exact H.out⟩
            obtain ⟨ad, e0, had⟩ := Kd.at_string R0_0.out i p c2
            cases e0
            replace had := am had
            obtain ⟨ae, e0, hae⟩ := Kd.at_string R1_0.out j p2 c3
            cases e0
            replace hae := am hae
            replace p := eq_true p
            replace p2 := eq_true p2
            replace c2 := eq_true c2
            replace c3 := eq_true c3
            refine stt 19 (fun w' => w'.cell? ⟨g3, 0, none⟩ = some (.slice (some ae) l1_0.length c1_0) ∧ w'.cell? ⟨g2, 0, none⟩ = some (.slice (some ad) l0_0.length c0_0) ∧ w'.cell? (ad.add i.toNat) = some (.string (rdOf ByteArray.empty l0_0 i)) ∧ w'.cell? (ae.add j.toNat) = some (.string (rdOf ByteArray.empty l1_0 j))) [] _ _ tally_Merge.tab12 tally_Merge.bits12 ⟨hc 0, hc 0, oc1 had, oc1 hae⟩ fun w4 hb hS HT HW => ?_
            replace O0 := rbl O0 hb
            replace O1 := rbl O1 hb
            replace B2 := bbl g2 hb
            replace B3 := bbl g3 hb
            replace B4 := bbl g4 hb
            replace B7 := bbl g7 hb
            replace HB := bst hb
            clear hb
            refine pu 0 ?_
            refine pu 1 ?_
            refine tk 2 ?_
            refine pu 3 ?_
            refine pu 4 ?_
            refine pu 5 ?_
            refine pu 6 ?_
            refine pu 8 ?_
            refine pu 11 ?_
            refine pu 13 ?_
            refine tk 7 ?_
            refine pu 9 ?_
            refine tk 10 ?_
            refine tk 12 ?_
            refine pu 14 ?_
            refine tk 15 ?_
            refine pu 16 ?_
            refine pu 17 ?_
            refine pu 18 ?_
            refine dne ?_
            clear hS HT HW
            try go_wp2
            go_meet
            case rel => exact ⟨_, rs, TH, ⟨rx⟩, ⟨rx⟩, ⟨sb⟩, ⟨sb⟩, ⟨sb⟩, ⟨sb⟩, ⟨bel⟩⟩
          case rest =>
           obtain ⟨b, rfl, H, O0, O1, B2, B3, B4, B7, HB⟩ := hcut
           cases b
           ·replace H := uF (am H.out : Aside0 (tally_Merge.t false k3 i j l0_0 l0_1 l1_0 l1_1 o oc = some (r1, r2, r3))) rfl
            replace H := jn H
            obtain ⟨p2, H⟩ := H
            replace H := jn H
            obtain ⟨c3, H⟩ := H
            replace H := jn H
            obtain ⟨p, H⟩ := H
            replace H := jn H
            obtain ⟨c2, H⟩ := H
            replace H := bE H
            obtain ⟨y, Y0, H⟩ := H
            replace Y0 := am (sj Y0).symm
            replace H := jn H
            obtain ⟨L0, H⟩ := H
            replace H := jn H
            obtain ⟨c4, H⟩ := H
            replace H := jn H
            obtain ⟨c5, H⟩ := H
            replace H := bE H
            obtain ⟨z, Y1, H⟩ := H
            replace Y1 := am (sj Y1).symm
            replace H := jn H
            obtain ⟨L1, H⟩ := H
            replace L0 := am L0
            replace L1 := am L1
            obtain ⟨o2, Y2⟩ : ∃ x, Aside0 (x = o ++ y) := ⟨_, ⟨rfl⟩⟩
            obtain ⟨oc2, Y3⟩ : ∃ x, Aside0 (x = oc ++ z) := ⟨_, ⟨rfl⟩⟩
            replace H : Aside0 (tally_Merge.l0 k3 (wrap64 (i + 1)) (wrap64 (j + 1)) l0_0 l0_1 l1_0 l1_1 o2 oc2 = some (r1, r2, r3)) := by rw [Y2.out, Y3.out]; exact H
            obtain ⟨ad, e0, had⟩ := Kd.at_string R0_0.out i p c2
            cases e0
            replace had := am had
            obtain ⟨ae, e0, hae⟩ := Kd.at_int R0_1.out i p c4
            cases e0
            replace hae := am hae
            obtain ⟨af, e0, haf⟩ := Kd.at_int R1_1.out j p2 c5
            cases e0
            replace haf := am haf
            replace p := eq_true p
            replace p2 := eq_true p2
            replace c2 := eq_true c2
            replace c3 := eq_true c3
            replace c4 := eq_true c4
            replace c5 := eq_true c5
            go_upto_region 7 with (fail)
            refine stt 28 (fun w' => w'.cell? ⟨g7, 0, none⟩ = some (.slice p0 o.length q0) ∧ w'.cell? ⟨g7, 1, none⟩ = some (.slice p1 oc.length q1) ∧ w'.cell? ⟨g2, 0, none⟩ = some (.slice (some ad) l0_0.length c0_0) ∧ w'.cell? ⟨g2, 1, none⟩ = some (.slice (some ae) l0_1.length c0_1) ∧ w'.cell? ⟨g3, 1, none⟩ = some (.slice (some af) l1_1.length c1_1) ∧ w'.cell? (ad.add i.toNat) = some (.string (rdOf ByteArray.empty l0_0 i)) ∧ w'.cell? (ae.add i.toNat) = some (.int .i64 (rd l0_1 i)) ∧ w'.cell? (af.add j.toNat) = some (.int .i64 (rd l1_1 j))) [25, 27] _ _ tally_Merge.tab7 tally_Merge.bits7 ⟨hc 0, hc 1, hc 0, hc 1, hc 1, oc1 had, oc1 hae, oc1 haf⟩ fun w4 hb hS HT HW => ?_
            replace O0 := rbl O0 hb
            replace O1 := rbl O1 hb
            replace B2 := bbl g2 hb
            replace B3 := bbl g3 hb
            replace B4 := bbl g4 hb
            replace B7 := bbl g7 hb
            replace HB := bst hb
            clear hb
            refine pu 0 ?_
            refine pu 2 ?_
            refine pu 4 ?_
            refine pu 9 ?_
            refine pu 11 ?_
            refine pu 13 ?_
            refine pu 16 ?_
            refine pu 18 ?_
            refine tk 1 ?_
            refine tk 3 ?_
            refine pu 5 ?_
            refine tk 6 ?_
            refine tk 10 ?_
            refine tk 12 ?_
            refine pu 14 ?_
            refine tk 15 ?_
            refine tk 17 ?_
            refine pu 19 ?_
            refine tk 20 ?_
            refine pu 21 ?_
            refine join_ (σ := Value × Value × Value) 4 #[true, true, true, true, true, true, true, true, true, true, true, true, true, true, true, true, true, true, true, true, true, true, true, false, true, false, false, false] (fun s => [(36, s.1), (37, s.2.1), (51, s.2.2), (53, .pointer (some ⟨g7, 0, none⟩))]) (fun s w' => (fun w' => w'.cell? ⟨g7, 0, none⟩ = some (.slice p0 o.length q0) ∧ w'.cell? ⟨g7, 1, none⟩ = some (.slice p1 oc.length q1) ∧ w'.cell? ⟨g2, 0, none⟩ = some (.slice (some ad) l0_0.length c0_0) ∧ w'.cell? ⟨g2, 1, none⟩ = some (.slice (some ae) l0_1.length c0_1) ∧ w'.cell? ⟨g3, 1, none⟩ = some (.slice (some af) l1_1.length c1_1) ∧ w'.cell? (ad.add i.toNat) = some (.string (rdOf ByteArray.empty l0_0 i)) ∧ w'.cell? (ae.add i.toNat) = some (.int .i64 (rd l0_1 i)) ∧ w'.cell? (af.add j.toNat) = some (.int .i64 (rd l1_1 j))) w' ∧ Aside0 (RS w' w s.2.1 o2) ∧ Aside0 (RI w' w s.2.2 z) ∧ Aside0 (RI w' w (.slice p1 oc.length q1) oc) ∧ Aside0 (w'.heap[g2]? = some (.cells #[.slice (some ad) l0_0.length c0_0, .slice (some ae) l0_1.length c0_1] 26 (0, 0))) ∧ Aside0 (w'.heap[g3]? = some (.cells #[.slice A1_0 l1_0.length c1_0, .slice (some af) l1_1.length c1_1] 26 (0, 0))) ∧ Aside0 (w'.heap[g4]? = some (.cells #[.slice none 0 0, .slice none 0 0] 26 (0, 0))) ∧ Aside0 (w'.heap[g7]? = some (.cells #[.slice p0 o.length q0, .slice p1 oc.length q1] 26 (0, 0))) ∧ Aside0 (Below w.heap.size w w')) ?_ ?_
            ·rintro ⟨vl, va, vm⟩ w5 ⟨hS, O2, OM, O1, B2, B3, B4, B7, HB⟩
             refine nrp ?_
             obtain ⟨pa, qa, rfl⟩ := Kd.R_slice O2.out
             obtain ⟨pm, qm, rfl⟩ := Kd.R_slice OM.out
             clear O0
             refine onA 23 ?_
             intro K hK
             refine kpI hK O1 OM L1 ?_
             intro v w6 ho HB1 hs hg
             rw [← Y3.out] at ho
             replace O2 := rgr O2 hs hg
             replace B2 := bgr g2 hs hg
             replace B3 := bgr g3 hs hg
             replace B4 := bgr g4 hs hg
             replace B7 := bgr g7 hs hg
             replace HB := HB1
             replace O1 := ho
             clear HB1 ho hs hg hS
             obtain ⟨p1, q1, rfl⟩ := Kd.R_slice O1.out
             refine ⟨⟨hc 0, hc 1, hc 0, hc 1, hc 1, oc1 had, oc1 hae, oc1 haf⟩, fun hS => nrm ?_⟩
             clear hS
             obtain ⟨⟨y0, y1⟩, d0, d1⟩ := cf2 B7.out
             refine lst0 25 ?_
             refine pu 26 ?_
             refine lst 27 ?_
             clear HT HW
             go_wp2
             go_roundg k3
             case measure => omega
             case rel => exact ⟨_, _, o2, oc2, .slice pa o2.length qa, .slice p1 oc2.length q1, rs, rs, H, ⟨rx⟩, ⟨rx⟩, ⟨sb⟩, ⟨sb⟩, ⟨sb⟩, ⟨set2 sb⟩, ⟨bel⟩⟩
            ·intro hCont
             refine twA 7 22 ?_ ?_
             ·intro K hK
              refine ksS hK (rdOf ByteArray.empty l0_0 i) ?_
              intro v w5 ho hb
              have OL := rlo ho
              rw [← Y0.out] at OL
              replace O0 := rbl O0 hb
              replace O1 := rbl O1 hb
              replace B2 := bbl g2 hb
              replace B3 := bbl g3 hb
              replace B4 := bbl g4 hb
              replace B7 := bbl g7 hb
              replace HB := bst hb
              obtain ⟨pl, ql, rfl⟩ := Kd.R_slice OL.out
              clear hb ho hS
              refine ⟨⟨hc 0, hc 1, hc 0, hc 1, hc 1, oc1 had, oc1 hae, oc1 haf⟩, fun hS => nrm ?_⟩
              refine twA 8 22 ?_ ?_
              ·intro K hK
               refine kpS hK O0 OL L0 ?_
               intro v w6 ho HB1 hs hg
               rw [← Y2.out] at ho
               replace O1 := rgr O1 hs hg
               replace B2 := bgr g2 hs hg
               replace B3 := bgr g3 hs hg
               replace B4 := bgr g4 hs hg
               replace B7 := bgr g7 hs hg
               replace HB := HB1
               have O2 := ho
               clear HB1 ho hs hg hS
               obtain ⟨pa, qa, rfl⟩ := Kd.R_slice O2.out
               refine ⟨⟨hc 0, hc 1, hc 0, hc 1, hc 1, oc1 had, oc1 hae, oc1 haf⟩, fun hS => nrm ?_⟩
               refine pu 24 ?_
               refine onA 22 ?_
               intro K hK
               refine ksI hK (wrap64 (rd l0_1 i + rd l1_1 j)) ?_
               intro v w7 ho hb
               have OM := rlo ho
               rw [← Y1.out] at OM
               replace O2 := rbl O2 hb
               replace O1 := rbl O1 hb
               replace B2 := bbl g2 hb
               replace B3 := bbl g3 hb
               replace B4 := bbl g4 hb
               replace B7 := bbl g7 hb
               replace HB := bst hb
               obtain ⟨pm, qm, rfl⟩ := Kd.R_slice OM.out
               clear hb ho hS
               refine ⟨⟨hc 0, hc 1, hc 0, hc 1, hc 1, oc1 had, oc1 hae, oc1 haf⟩, fun hS => ?_⟩
               exact nrp (hCont (.slice pl y.length ql, .slice pa o2.length qa, .slice pm z.length qm) _ ⟨hS, O2, OM, O1, B2, B3, B4, B7, HB⟩)
              ·intro K hK
               refine ksI hK (wrap64 (rd l0_1 i + rd l1_1 j)) ?_
               intro v w5 ho hb
               have OM := rlo ho
               rw [← Y1.out] at OM
               replace O0 := rbl O0 hb
               replace O1 := rbl O1 hb
               replace OL := rbl OL hb
               replace B2 := bbl g2 hb
               replace B3 := bbl g3 hb
               replace B4 := bbl g4 hb
               replace B7 := bbl g7 hb
               replace HB := bst hb
               obtain ⟨pm, qm, rfl⟩ := Kd.R_slice OM.out
               clear hb ho hS
               refine ⟨⟨hc 0, hc 1, hc 0, hc 1, hc 1, oc1 had, oc1 hae, oc1 haf⟩, fun hS => nrm ?_⟩
               refine onA 8 ?_
               intro K hK
               refine kpS hK O0 OL L0 ?_
               intro v w6 ho HB1 hs hg
               rw [← Y2.out] at ho
               replace O1 := rgr O1 hs hg
               replace OM := rgr OM hs hg
               replace B2 := bgr g2 hs hg
               replace B3 := bgr g3 hs hg
               replace B4 := bgr g4 hs hg
               replace B7 := bgr g7 hs hg
               replace HB := HB1
               have O2 := ho
               clear HB1 ho hs hg hS
               obtain ⟨pa, qa, rfl⟩ := Kd.R_slice O2.out
               refine ⟨⟨hc 0, hc 1, hc 0, hc 1, hc 1, oc1 had, oc1 hae, oc1 haf⟩, fun hS => nrm ?_⟩
               refine pu 24 ?_
               exact nrp (hCont (.slice pl y.length ql, .slice pa o2.length qa, .slice pm z.length qm) _ ⟨hS, O2, OM, O1, B2, B3, B4, B7, HB⟩)
             ·intro K hK
              refine ksI hK (wrap64 (rd l0_1 i + rd l1_1 j)) ?_
              intro v w5 ho hb
              have OM := rlo ho
              rw [← Y1.out] at OM
              replace O0 := rbl O0 hb
              replace O1 := rbl O1 hb
              replace B2 := bbl g2 hb
              replace B3 := bbl g3 hb
              replace B4 := bbl g4 hb
              replace B7 := bbl g7 hb
              replace HB := bst hb
              obtain ⟨pm, qm, rfl⟩ := Kd.R_slice OM.out
              clear hb ho hS
              refine ⟨⟨hc 0, hc 1, hc 0, hc 1, hc 1, oc1 had, oc1 hae, oc1 haf⟩, fun hS => nrm ?_⟩
              refine onA 7 ?_
              intro K hK
              refine ksS hK (rdOf ByteArray.empty l0_0 i) ?_
              intro v w5 ho hb
              have OL := rlo ho
              rw [← Y0.out] at OL
              replace O0 := rbl O0 hb
              replace O1 := rbl O1 hb
              replace OM := rbl OM hb
              replace B2 := bbl g2 hb
              replace B3 := bbl g3 hb
              replace B4 := bbl g4 hb
              replace B7 := bbl g7 hb
              replace HB := bst hb
              obtain ⟨pl, ql, rfl⟩ := Kd.R_slice OL.out
              clear hb ho hS
              refine ⟨⟨hc 0, hc 1, hc 0, hc 1, hc 1, oc1 had, oc1 hae, oc1 haf⟩, fun hS => nrm ?_⟩
              refine onA 8 ?_
              intro K hK
              refine kpS hK O0 OL L0 ?_
              intro v w6 ho HB1 hs hg
              rw [← Y2.out] at ho
              replace O1 := rgr O1 hs hg
              replace OM := rgr OM hs hg
              replace B2 := bgr g2 hs hg
              replace B3 := bgr g3 hs hg
              replace B4 := bgr g4 hs hg
              replace B7 := bgr g7 hs hg
              replace HB := HB1
              have O2 := ho
              clear HB1 ho hs hg hS
              obtain ⟨pa, qa, rfl⟩ := Kd.R_slice O2.out
              refine ⟨⟨hc 0, hc 1, hc 0, hc 1, hc 1, oc1 had, oc1 hae, oc1 haf⟩, fun hS => nrm ?_⟩
              refine pu 24 ?_
              exact nrp (hCont (.slice pl y.length ql, .slice pa o2.length qa, .slice pm z.length qm) _ ⟨hS, O2, OM, O1, B2, B3, B4, B7, HB⟩)
           ·replace H := uT (am H.out : Aside0 (tally_Merge.t true k3 i j l0_0 l0_1 l1_0 l1_1 o oc = some (r1, r2, r3))) rfl
            replace H := jn H
            obtain ⟨p, H⟩ := H
            replace H := jn H
            obtain ⟨c2, H⟩ := H
            replace H := bE H
            obtain ⟨y, Y0, H⟩ := H
            replace Y0 := am (sj Y0).symm
            replace H := jn H
            obtain ⟨L0, H⟩ := H
            replace H := jn H
            obtain ⟨c4, H⟩ := H
            replace H := bE H
            obtain ⟨z, Y1, H⟩ := H
            replace Y1 := am (sj Y1).symm
            replace H := jn H
            obtain ⟨L1, H⟩ := H
            replace L0 := am L0
            replace L1 := am L1
            obtain ⟨o2, Y2⟩ : ∃ x, Aside0 (x = o ++ y) := ⟨_, ⟨rfl⟩⟩
            obtain ⟨oc2, Y3⟩ : ∃ x, Aside0 (x = oc ++ z) := ⟨_, ⟨rfl⟩⟩
            replace H : Aside0 (tally_Merge.l0 k3 i (wrap64 (j + 1)) l0_0 l0_1 l1_0 l1_1 o2 oc2 = some (r1, r2, r3)) := by rw [Y2.out, Y3.out]; exact H
            obtain ⟨ad, e0, had⟩ := Kd.at_string R1_0.out j p c2
            cases e0
            replace had := am had
            obtain ⟨ae, e0, hae⟩ := Kd.at_int R1_1.out j p c4
            cases e0
            replace hae := am hae
            replace p := eq_true p
            replace c2 := eq_true c2
            replace c4 := eq_true c4
            go_upto_region 13 with (fail)
            refine stt 22 (fun w' => w'.cell? ⟨g7, 0, none⟩ = some (.slice p0 o.length q0) ∧ w'.cell? ⟨g7, 1, none⟩ = some (.slice p1 oc.length q1) ∧ w'.cell? ⟨g3, 0, none⟩ = some (.slice (some ad) l1_0.length c1_0) ∧ w'.cell? ⟨g3, 1, none⟩ = some (.slice (some ae) l1_1.length c1_1) ∧ w'.cell? (ad.add j.toNat) = some (.string (rdOf ByteArray.empty l1_0 j)) ∧ w'.cell? (ae.add j.toNat) = some (.int .i64 (rd l1_1 j))) [19, 21] _ _ tally_Merge.tab13 tally_Merge.bits13 ⟨hc 0, hc 1, hc 0, hc 1, oc1 had, oc1 hae⟩ fun w4 hb hS HT HW => ?_
            replace O0 := rbl O0 hb
            replace O1 := rbl O1 hb
            replace B2 := bbl g2 hb
            replace B3 := bbl g3 hb
            replace B4 := bbl g4 hb
            replace B7 := bbl g7 hb
            replace HB := bst hb
            clear hb
            refine pu 0 ?_
            refine pu 2 ?_
            refine pu 4 ?_
            refine pu 9 ?_
            refine pu 11 ?_
            refine pu 13 ?_
            refine tk 1 ?_
            refine tk 3 ?_
            refine pu 5 ?_
            refine tk 6 ?_
            refine tk 10 ?_
            refine tk 12 ?_
            refine pu 14 ?_
            refine tk 15 ?_
            refine join_ (σ := Value × Value × Value) 4 #[true, true, true, true, true, true, true, true, true, true, true, true, true, true, true, true, true, false, true, false, false, false] (fun s => [(133, s.1), (134, s.2.1), (142, s.2.2), (144, .pointer (some ⟨g7, 0, none⟩))]) (fun s w' => (fun w' => w'.cell? ⟨g7, 0, none⟩ = some (.slice p0 o.length q0) ∧ w'.cell? ⟨g7, 1, none⟩ = some (.slice p1 oc.length q1) ∧ w'.cell? ⟨g3, 0, none⟩ = some (.slice (some ad) l1_0.length c1_0) ∧ w'.cell? ⟨g3, 1, none⟩ = some (.slice (some ae) l1_1.length c1_1) ∧ w'.cell? (ad.add j.toNat) = some (.string (rdOf ByteArray.empty l1_0 j)) ∧ w'.cell? (ae.add j.toNat) = some (.int .i64 (rd l1_1 j))) w' ∧ Aside0 (RS w' w s.2.1 o2) ∧ Aside0 (RI w' w s.2.2 z) ∧ Aside0 (RI w' w (.slice p1 oc.length q1) oc) ∧ Aside0 (w'.heap[g2]? = some (.cells #[.slice A0_0 l0_0.length c0_0, .slice A0_1 l0_1.length c0_1] 26 (0, 0))) ∧ Aside0 (w'.heap[g3]? = some (.cells #[.slice (some ad) l1_0.length c1_0, .slice (some ae) l1_1.length c1_1] 26 (0, 0))) ∧ Aside0 (w'.heap[g4]? = some (.cells #[.slice none 0 0, .slice none 0 0] 26 (0, 0))) ∧ Aside0 (w'.heap[g7]? = some (.cells #[.slice p0 o.length q0, .slice p1 oc.length q1] 26 (0, 0))) ∧ Aside0 (Below w.heap.size w w')) ?_ ?_
            ·rintro ⟨vl, va, vm⟩ w5 ⟨hS, O2, OM, O1, B2, B3, B4, B7, HB⟩
             refine nrp ?_
             obtain ⟨pa, qa, rfl⟩ := Kd.R_slice O2.out
             obtain ⟨pm, qm, rfl⟩ := Kd.R_slice OM.out
             clear O0
             refine onA 17 ?_
             intro K hK
             refine kpI hK O1 OM L1 ?_
             intro v w6 ho HB1 hs hg
             rw [← Y3.out] at ho
             replace O2 := rgr O2 hs hg
             replace B2 := bgr g2 hs hg
             replace B3 := bgr g3 hs hg
             replace B4 := bgr g4 hs hg
             replace B7 := bgr g7 hs hg
             replace HB := HB1
             replace O1 := ho
             clear HB1 ho hs hg hS
             obtain ⟨p1, q1, rfl⟩ := Kd.R_slice O1.out
             refine ⟨⟨hc 0, hc 1, hc 0, hc 1, oc1 had, oc1 hae⟩, fun hS => nrm ?_⟩
             clear hS
             obtain ⟨⟨y0, y1⟩, d0, d1⟩ := cf2 B7.out
             refine lst0 19 ?_
             refine pu 20 ?_
             refine lst 21 ?_
             clear HT HW
             go_wp2
             go_roundg k3
             case measure => omega
             case rel => exact ⟨_, _, o2, oc2, .slice pa o2.length qa, .slice p1 oc2.length q1, rs, rs, H, ⟨rx⟩, ⟨rx⟩, ⟨sb⟩, ⟨sb⟩, ⟨sb⟩, ⟨set2 sb⟩, ⟨bel⟩⟩
            ·intro hCont
             refine twA 7 16 ?_ ?_
             ·intro K hK
              refine ksS hK (rdOf ByteArray.empty l1_0 j) ?_
              intro v w5 ho hb
              have OL := rlo ho
              rw [← Y0.out] at OL
              replace O0 := rbl O0 hb
              replace O1 := rbl O1 hb
              replace B2 := bbl g2 hb
              replace B3 := bbl g3 hb
              replace B4 := bbl g4 hb
              replace B7 := bbl g7 hb
              replace HB := bst hb
              obtain ⟨pl, ql, rfl⟩ := Kd.R_slice OL.out
              clear hb ho hS
              refine ⟨⟨hc 0, hc 1, hc 0, hc 1, oc1 had, oc1 hae⟩, fun hS => nrm ?_⟩
              refine twA 8 16 ?_ ?_
              ·intro K hK
               refine kpS hK O0 OL L0 ?_
               intro v w6 ho HB1 hs hg
               rw [← Y2.out] at ho
               replace O1 := rgr O1 hs hg
               replace B2 := bgr g2 hs hg
               replace B3 := bgr g3 hs hg
               replace B4 := bgr g4 hs hg
               replace B7 := bgr g7 hs hg
               replace HB := HB1
               have O2 := ho
               clear HB1 ho hs hg hS
               obtain ⟨pa, qa, rfl⟩ := Kd.R_slice O2.out
               refine ⟨⟨hc 0, hc 1, hc 0, hc 1, oc1 had, oc1 hae⟩, fun hS => nrm ?_⟩
               refine pu 18 ?_
               refine onA 16 ?_
               intro K hK
               refine ksI hK (rd l1_1 j) ?_
               intro v w7 ho hb
               have OM := rlo ho
               rw [← Y1.out] at OM
               replace O2 := rbl O2 hb
               replace O1 := rbl O1 hb
               replace B2 := bbl g2 hb
               replace B3 := bbl g3 hb
               replace B4 := bbl g4 hb
               replace B7 := bbl g7 hb
               replace HB := bst hb
               obtain ⟨pm, qm, rfl⟩ := Kd.R_slice OM.out
               clear hb ho hS
               refine ⟨⟨hc 0, hc 1, hc 0, hc 1, oc1 had, oc1 hae⟩, fun hS => ?_⟩
               exact nrp (hCont (.slice pl y.length ql, .slice pa o2.length qa, .slice pm z.length qm) _ ⟨hS, O2, OM, O1, B2, B3, B4, B7, HB⟩)
              ·intro K hK
               refine ksI hK (rd l1_1 j) ?_
               intro v w5 ho hb
               have OM := rlo ho
               rw [← Y1.out] at OM
               replace O0 := rbl O0 hb
               replace O1 := rbl O1 hb
               replace OL := rbl OL hb
               replace B2 := bbl g2 hb
               replace B3 := bbl g3 hb
               replace B4 := bbl g4 hb
               replace B7 := bbl g7 hb
               replace HB := bst hb
               obtain ⟨pm, qm, rfl⟩ := Kd.R_slice OM.out
               clear hb ho hS
               refine ⟨⟨hc 0, hc 1, hc 0, hc 1, oc1 had, oc1 hae⟩, fun hS => nrm ?_⟩
               refine onA 8 ?_
               intro K hK
               refine kpS hK O0 OL L0 ?_
               intro v w6 ho HB1 hs hg
               rw [← Y2.out] at ho
               replace O1 := rgr O1 hs hg
               replace OM := rgr OM hs hg
               replace B2 := bgr g2 hs hg
               replace B3 := bgr g3 hs hg
               replace B4 := bgr g4 hs hg
               replace B7 := bgr g7 hs hg
               replace HB := HB1
               have O2 := ho
               clear HB1 ho hs hg hS
               obtain ⟨pa, qa, rfl⟩ := Kd.R_slice O2.out
               refine ⟨⟨hc 0, hc 1, hc 0, hc 1, oc1 had, oc1 hae⟩, fun hS => nrm ?_⟩
               refine pu 18 ?_
               exact nrp (hCont (.slice pl y.length ql, .slice pa o2.length qa, .slice pm z.length qm) _ ⟨hS, O2, OM, O1, B2, B3, B4, B7, HB⟩)
             ·intro K hK
              refine ksI hK (rd l1_1 j) ?_
              intro v w5 ho hb
              have OM := rlo ho
              rw [← Y1.out] at OM
              replace O0 := rbl O0 hb
              replace O1 := rbl O1 hb
              replace B2 := bbl g2 hb
              replace B3 := bbl g3 hb
              replace B4 := bbl g4 hb
              replace B7 := bbl g7 hb
              replace HB := bst hb
              obtain ⟨pm, qm, rfl⟩ := Kd.R_slice OM.out
              clear hb ho hS
              refine ⟨⟨hc 0, hc 1, hc 0, hc 1, oc1 had, oc1 hae⟩, fun hS => nrm ?_⟩
              refine onA 7 ?_
              intro K hK
              refine ksS hK (rdOf ByteArray.empty l1_0 j) ?_
              intro v w5 ho hb
              have OL := rlo ho
              rw [← Y0.out] at OL
              replace O0 := rbl O0 hb
              replace O1 := rbl O1 hb
              replace OM := rbl OM hb
              replace B2 := bbl g2 hb
              replace B3 := bbl g3 hb
              replace B4 := bbl g4 hb
              replace B7 := bbl g7 hb
              replace HB := bst hb
              obtain ⟨pl, ql, rfl⟩ := Kd.R_slice OL.out
              clear hb ho hS
              refine ⟨⟨hc 0, hc 1, hc 0, hc 1, oc1 had, oc1 hae⟩, fun hS => nrm ?_⟩
              refine onA 8 ?_
              intro K hK
              refine kpS hK O0 OL L0 ?_
              intro v w6 ho HB1 hs hg
              rw [← Y2.out] at ho
              replace O1 := rgr O1 hs hg
              replace OM := rgr OM hs hg
              replace B2 := bgr g2 hs hg
              replace B3 := bgr g3 hs hg
              replace B4 := bgr g4 hs hg
              replace B7 := bgr g7 hs hg
              replace HB := HB1
              have O2 := ho
              clear HB1 ho hs hg hS
              obtain ⟨pa, qa, rfl⟩ := Kd.R_slice O2.out
              refine ⟨⟨hc 0, hc 1, hc 0, hc 1, oc1 had, oc1 hae⟩, fun hS => nrm ?_⟩
              refine pu 18 ?_
              exact nrp (hCont (.slice pl y.length ql, .slice pa o2.length qa, .slice pm z.length qm) _ ⟨hS, O2, OM, O1, B2, B3, B4, B7, HB⟩)
         ·replace H := uT H rfl
          replace H := jn H
          obtain ⟨p, H⟩ := H
          replace H := jn H
          obtain ⟨c2, H⟩ := H
          replace H := bE H
          obtain ⟨y, Y0, H⟩ := H
          replace Y0 := am (sj Y0).symm
          replace H := jn H
          obtain ⟨L0, H⟩ := H
          replace H := jn H
          obtain ⟨c4, H⟩ := H
          replace H := bE H
          obtain ⟨z, Y1, H⟩ := H
          replace Y1 := am (sj Y1).symm
          replace H := jn H
          obtain ⟨L1, H⟩ := H
          replace L0 := am L0
          replace L1 := am L1
          obtain ⟨o2, Y2⟩ : ∃ x, Aside0 (x = o ++ y) := ⟨_, ⟨rfl⟩⟩
          obtain ⟨oc2, Y3⟩ : ∃ x, Aside0 (x = oc ++ z) := ⟨_, ⟨rfl⟩⟩
          replace H : Aside0 (tally_Merge.l0 k3 (wrap64 (i + 1)) j l0_0 l0_1 l1_0 l1_1 o2 oc2 = some (r1, r2, r3)) := by rw [Y2.out, Y3.out]; exact H
          obtain ⟨ad, e0, had⟩ := Kd.at_string R0_0.out i p c2
          cases e0
          replace had := am had
          obtain ⟨ae, e0, hae⟩ := Kd.at_int R0_1.out i p c4
          cases e0
          replace hae := am hae
          replace p := eq_true p
          replace c2 := eq_true c2
          replace c4 := eq_true c4
          go_upto_region 10 with (fail)
          refine stt 22 (fun w' => w'.cell? ⟨g7, 0, none⟩ = some (.slice p0 o.length q0) ∧ w'.cell? ⟨g7, 1, none⟩ = some (.slice p1 oc.length q1) ∧ w'.cell? ⟨g2, 0, none⟩ = some (.slice (some ad) l0_0.length c0_0) ∧ w'.cell? ⟨g2, 1, none⟩ = some (.slice (some ae) l0_1.length c0_1) ∧ w'.cell? (ad.add i.toNat) = some (.string (rdOf ByteArray.empty l0_0 i)) ∧ w'.cell? (ae.add i.toNat) = some (.int .i64 (rd l0_1 i))) [19, 21] _ _ tally_Merge.tab10 tally_Merge.bits10 ⟨hc 0, hc 1, hc 0, hc 1, oc1 had, oc1 hae⟩ fun w4 hb hS HT HW => ?_
          replace O0 := rbl O0 hb
          replace O1 := rbl O1 hb
          replace B2 := bbl g2 hb
          replace B3 := bbl g3 hb
          replace B4 := bbl g4 hb
          replace B7 := bbl g7 hb
          replace HB := bst hb
          clear hb
          refine pu 0 ?_
          refine pu 2 ?_
          refine pu 4 ?_
          refine pu 9 ?_
          refine pu 11 ?_
          refine pu 13 ?_
          refine tk 1 ?_
          refine tk 3 ?_
          refine pu 5 ?_
          refine tk 6 ?_
          refine tk 10 ?_
          refine tk 12 ?_
          refine pu 14 ?_
          refine tk 15 ?_
          refine join_ (σ := Value × Value × Value) 4 #[true, true, true, true, true, true, true, true, true, true, true, true, true, true, true, true, true, false, true, false, false, false] (fun s => [(92, s.1), (93, s.2.1), (101, s.2.2), (103, .pointer (some ⟨g7, 0, none⟩))]) (fun s w' => (fun w' => w'.cell? ⟨g7, 0, none⟩ = some (.slice p0 o.length q0) ∧ w'.cell? ⟨g7, 1, none⟩ = some (.slice p1 oc.length q1) ∧ w'.cell? ⟨g2, 0, none⟩ = some (.slice (some ad) l0_0.length c0_0) ∧ w'.cell? ⟨g2, 1, none⟩ = some (.slice (some ae) l0_1.length c0_1) ∧ w'.cell? (ad.add i.toNat) = some (.string (rdOf ByteArray.empty l0_0 i)) ∧ w'.cell? (ae.add i.toNat) = some (.int .i64 (rd l0_1 i))) w' ∧ Aside0 (RS w' w s.2.1 o2) ∧ Aside0 (RI w' w s.2.2 z) ∧ Aside0 (RI w' w (.slice p1 oc.length q1) oc) ∧ Aside0 (w'.heap[g2]? = some (.cells #[.slice (some ad) l0_0.length c0_0, .slice (some ae) l0_1.length c0_1] 26 (0, 0))) ∧ Aside0 (w'.heap[g3]? = some (.cells #[.slice A1_0 l1_0.length c1_0, .slice A1_1 l1_1.length c1_1] 26 (0, 0))) ∧ Aside0 (w'.heap[g4]? = some (.cells #[.slice none 0 0, .slice none 0 0] 26 (0, 0))) ∧ Aside0 (w'.heap[g7]? = some (.cells #[.slice p0 o.length q0, .slice p1 oc.length q1] 26 (0, 0))) ∧ Aside0 (Below w.heap.size w w')) ?_ ?_
          ·rintro ⟨vl, va, vm⟩ w5 ⟨hS, O2, OM, O1, B2, B3, B4, B7, HB⟩
           refine nrp ?_
           obtain ⟨pa, qa, rfl⟩ := Kd.R_slice O2.out
           obtain ⟨pm, qm, rfl⟩ := Kd.R_slice OM.out
           clear O0
           refine onA 17 ?_
           intro K hK
           refine kpI hK O1 OM L1 ?_
           intro v w6 ho HB1 hs hg
           rw [← Y3.out] at ho
           replace O2 := rgr O2 hs hg
           replace B2 := bgr g2 hs hg
           replace B3 := bgr g3 hs hg
           replace B4 := bgr g4 hs hg
           replace B7 := bgr g7 hs hg
           replace HB := HB1
           replace O1 := ho
           clear HB1 ho hs hg hS
           obtain ⟨p1, q1, rfl⟩ := Kd.R_slice O1.out
           refine ⟨⟨hc 0, hc 1, hc 0, hc 1, oc1 had, oc1 hae⟩, fun hS => nrm ?_⟩
           clear hS
           obtain ⟨⟨y0, y1⟩, d0, d1⟩ := cf2 B7.out
           refine lst0 19 ?_
           refine pu 20 ?_
           refine lst 21 ?_
           clear HT HW
           go_wp2
           go_roundg k3
           case measure => omega
           case rel => exact ⟨_, _, o2, oc2, .slice pa o2.length qa, .slice p1 oc2.length q1, rs, rs, H, ⟨rx⟩, ⟨rx⟩, ⟨sb⟩, ⟨sb⟩, ⟨sb⟩, ⟨set2 sb⟩, ⟨bel⟩⟩
          ·intro hCont
           refine twA 7 16 ?_ ?_
           ·intro K hK
            refine ksS hK (rdOf ByteArray.empty l0_0 i) ?_
            intro v w5 ho hb
            have OL := rlo ho
            rw [← Y0.out] at OL
            replace O0 := rbl O0 hb
            replace O1 := rbl O1 hb
            replace B2 := bbl g2 hb
            replace B3 := bbl g3 hb
            replace B4 := bbl g4 hb
            replace B7 := bbl g7 hb
            replace HB := bst hb
            obtain ⟨pl, ql, rfl⟩ := Kd.R_slice OL.out
            clear hb ho hS
            refine ⟨⟨hc 0, hc 1, hc 0, hc 1, oc1 had, oc1 hae⟩, fun hS => nrm ?_⟩
            refine twA 8 16 ?_ ?_
            ·intro K hK
             refine kpS hK O0 OL L0 ?_
             intro v w6 ho HB1 hs hg
             rw [← Y2.out] at ho
             replace O1 := rgr O1 hs hg
             replace B2 := bgr g2 hs hg
             replace B3 := bgr g3 hs hg
             replace B4 := bgr g4 hs hg
             replace B7 := bgr g7 hs hg
             replace HB := HB1
             have O2 := ho
             clear HB1 ho hs hg hS
             obtain ⟨pa, qa, rfl⟩ := Kd.R_slice O2.out
             refine ⟨⟨hc 0, hc 1, hc 0, hc 1, oc1 had, oc1 hae⟩, fun hS => nrm ?_⟩
             refine pu 18 ?_
             refine onA 16 ?_
             intro K hK
             refine ksI hK (rd l0_1 i) ?_
             intro v w7 ho hb
             have OM := rlo ho
             rw [← Y1.out] at OM
             replace O2 := rbl O2 hb
             replace O1 := rbl O1 hb
             replace B2 := bbl g2 hb
             replace B3 := bbl g3 hb
             replace B4 := bbl g4 hb
             replace B7 := bbl g7 hb
             replace HB := bst hb
             obtain ⟨pm, qm, rfl⟩ := Kd.R_slice OM.out
             clear hb ho hS
             refine ⟨⟨hc 0, hc 1, hc 0, hc 1, oc1 had, oc1 hae⟩, fun hS => ?_⟩
             exact nrp (hCont (.slice pl y.length ql, .slice pa o2.length qa, .slice pm z.length qm) _ ⟨hS, O2, OM, O1, B2, B3, B4, B7, HB⟩)
            ·intro K hK
             refine ksI hK (rd l0_1 i) ?_
             intro v w5 ho hb
             have OM := rlo ho
             rw [← Y1.out] at OM
             replace O0 := rbl O0 hb
             replace O1 := rbl O1 hb
             replace OL := rbl OL hb
             replace B2 := bbl g2 hb
             replace B3 := bbl g3 hb
             replace B4 := bbl g4 hb
             replace B7 := bbl g7 hb
             replace HB := bst hb
             obtain ⟨pm, qm, rfl⟩ := Kd.R_slice OM.out
             clear hb ho hS
             refine ⟨⟨hc 0, hc 1, hc 0, hc 1, oc1 had, oc1 hae⟩, fun hS => nrm ?_⟩
             refine onA 8 ?_
             intro K hK
             refine kpS hK O0 OL L0 ?_
             intro v w6 ho HB1 hs hg
             rw [← Y2.out] at ho
             replace O1 := rgr O1 hs hg
             replace OM := rgr OM hs hg
             replace B2 := bgr g2 hs hg
             replace B3 := bgr g3 hs hg
             replace B4 := bgr g4 hs hg
             replace B7 := bgr g7 hs hg
             replace HB := HB1
             have O2 := ho
             clear HB1 ho hs hg hS
             obtain ⟨pa, qa, rfl⟩ := Kd.R_slice O2.out
             refine ⟨⟨hc 0, hc 1, hc 0, hc 1, oc1 had, oc1 hae⟩, fun hS => nrm ?_⟩
             refine pu 18 ?_
             exact nrp (hCont (.slice pl y.length ql, .slice pa o2.length qa, .slice pm z.length qm) _ ⟨hS, O2, OM, O1, B2, B3, B4, B7, HB⟩)
           ·intro K hK
            refine ksI hK (rd l0_1 i) ?_
            intro v w5 ho hb
            have OM := rlo ho
            rw [← Y1.out] at OM
            replace O0 := rbl O0 hb
            replace O1 := rbl O1 hb
            replace B2 := bbl g2 hb
            replace B3 := bbl g3 hb
            replace B4 := bbl g4 hb
            replace B7 := bbl g7 hb
            replace HB := bst hb
            obtain ⟨pm, qm, rfl⟩ := Kd.R_slice OM.out
            clear hb ho hS
            refine ⟨⟨hc 0, hc 1, hc 0, hc 1, oc1 had, oc1 hae⟩, fun hS => nrm ?_⟩
            refine onA 7 ?_
            intro K hK
            refine ksS hK (rdOf ByteArray.empty l0_0 i) ?_
            intro v w5 ho hb
            have OL := rlo ho
            rw [← Y0.out] at OL
            replace O0 := rbl O0 hb
            replace O1 := rbl O1 hb
            replace OM := rbl OM hb
            replace B2 := bbl g2 hb
            replace B3 := bbl g3 hb
            replace B4 := bbl g4 hb
            replace B7 := bbl g7 hb
            replace HB := bst hb
            obtain ⟨pl, ql, rfl⟩ := Kd.R_slice OL.out
            clear hb ho hS
            refine ⟨⟨hc 0, hc 1, hc 0, hc 1, oc1 had, oc1 hae⟩, fun hS => nrm ?_⟩
            refine onA 8 ?_
            intro K hK
            refine kpS hK O0 OL L0 ?_
            intro v w6 ho HB1 hs hg
            rw [← Y2.out] at ho
            replace O1 := rgr O1 hs hg
            replace OM := rgr OM hs hg
            replace B2 := bgr g2 hs hg
            replace B3 := bgr g3 hs hg
            replace B4 := bgr g4 hs hg
            replace B7 := bgr g7 hs hg
            replace HB := HB1
            have O2 := ho
            clear HB1 ho hs hg hS
            obtain ⟨pa, qa, rfl⟩ := Kd.R_slice O2.out
            refine ⟨⟨hc 0, hc 1, hc 0, hc 1, oc1 had, oc1 hae⟩, fun hS => nrm ?_⟩
            refine pu 18 ?_
            exact nrp (hCont (.slice pl y.length ql, .slice pa o2.length qa, .slice pm z.length qm) _ ⟨hS, O2, OM, O1, B2, B3, B4, B7, HB⟩)
end Go.Proofs.YtolenfcngomdfaaGreatDoor.V
