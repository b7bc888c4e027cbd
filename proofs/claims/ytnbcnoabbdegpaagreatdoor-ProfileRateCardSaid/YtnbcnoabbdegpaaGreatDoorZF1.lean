/- A part of the proof of the tied card of ProfileRate (chapter 53): the law returns true whatever the input. -/
import Derived.Test.YtnbcnoabbdegpaaGreatDoorZA
import Derived.JoinedOf
import Derived.SevenTiedAt
import Derived.KernelRfl
set_option linter.unusedVariables false
set_option linter.unusedSimpArgs false
namespace Go.Proofs.YtnbcnoabbdegpaaGreatDoor.R
set_option maxRecDepth 100000
theorem inPlace3:Tryz.prog.inPlace 3 = ["internal/bytealg.IndexByteString","internal/abi.NoEscape","internal/bytealg.MakeNoZero","internal/bytealg.CountString","internal/bytealg.IndexString","slices.overlaps[string]","slices.overlaps[int]"]:=by
 rw [Program.inPlace,cl3_ok]
 kernel_rfl
theorem unf3:Tryz.prog.unfollowed 3 = true:=by
 rw [Program.unfollowed,cl3_ok]
 kernel_rfl
theorem rec3:Tryz.prog.recurses 3 = true:=by
 rw [Program.recurses,unf3,Bool.true_or]
theorem vars3:Tryz.prog.varsNamed 3 = ["internal/strconv.uint64pow10","math/bits.deBruijn32tab","math/bits.deBruijn64tab","unicode/utf8.first","unicode/utf8.acceptRanges","internal/bytealg.MaxLen"]:=by
 rw [Program.varsNamed,cl3_ok]
 kernel_rfl
end Go.Proofs.YtnbcnoabbdegpaaGreatDoor.R
