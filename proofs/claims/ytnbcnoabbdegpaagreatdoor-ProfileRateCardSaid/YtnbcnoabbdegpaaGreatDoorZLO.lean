/- A part of the proof of the tied card of ProfileRate (chapter 53): the law returns true whatever the input. -/
import Derived.Test.YtnbcnoabbdegpaaGreatDoorCards
import Derived.Stop.Joined
import Derived.ProofKit
import Derived.KernelRfl
set_option linter.unusedVariables false
set_option linter.unusedSimpArgs false
namespace Go.Proofs.YtnbcnoabbdegpaaGreatDoor.R
set_option maxRecDepth 100000
theorem tsize:Tryz.prog.types.size = 674:=by kernel_rfl
theorem lo0:(List.range' 0 170).all (rowFine Tryz.prog) = true:=by kernel_rfl
theorem lo1:(List.range' 170 170).all (rowFine Tryz.prog) = true:=by kernel_rfl
theorem lo2:(List.range' 340 170).all (rowFine Tryz.prog) = true:=by kernel_rfl
theorem lo3:(List.range' 510 164).all (rowFine Tryz.prog) = true:=by kernel_rfl
theorem loG:Tryz.prog.globals.all (fun g => decide (g.type < Tryz.prog.types.size)) = true:=by kernel_rfl
theorem loF:Tryz.prog.funcs.all (fun f => f.params.all fun t => decide (t < 674)) = true:=by kernel_rfl
theorem loAt {a b t:Nat} {f:Nat → Bool} (h:(List.range' a b).all f = true) (h1:a ≤ t) (h2:t < a + b):f t = true:=List.all_eq_true.1 h t (List.mem_range'_1.2 ⟨h1,h2⟩)
theorem laidOut:laidOutB Tryz.prog = true:=by
 unfold laidOutB
 rw [loG,tsize,loF,Bool.and_true,Bool.and_true,List.all_eq_true]
 intro t ht
 have ht:=List.mem_range.1 ht
 by_cases h0:t < 170
 ·exact loAt lo0 (by omega) (by omega)
 by_cases h1:t < 340
 ·exact loAt lo1 (by omega) (by omega)
 by_cases h2:t < 510
 ·exact loAt lo2 (by omega) (by omega)
 exact loAt lo3 (by omega) (by omega)
end Go.Proofs.YtnbcnoabbdegpaaGreatDoor.R
