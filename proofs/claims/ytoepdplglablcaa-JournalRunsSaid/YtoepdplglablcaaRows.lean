/-
  No cell of these rows narrows 'for every input' (looked for: loops, veiled, ifaces, maps, wideKeys, modest, calm, conditions, laid).
  DERIVED. THE GIVEN ROWS OF THIS SEAT. 8 by the template 'for every input the law returns true; each argument reads behind the call as it read before'; 0 by the template 'total and deterministic' (their statements: YtoepdplglablcaaTotals.lean).
  GIVEN WITH THE SEED: the statements are not yours to turn. If you find one false, say at which input.
  Laid BY PROGRAM, IN A SANDBOX (cutbox-rows.mjs): the forced cells as the released guide's own fill.sh prints them over the translation 879b0004d831e7b2… (all of the seat's roots in one cut). By AI agents, Wed Nov 11 2026. No macro, syntax, notation, axiom, sorry.
-/
import Derived.Test.YtoepdplglablcaaChecked
import GoSem.Claim
import GoSem.ClaimJoined
import GoSem.ClaimMapViews
import Derived.JoinedTies
import Derived.KernelRfl
namespace Go.Proofs.Ytoepdplglablcaa
/- THE CELL 'sum', in the pinned program and in every row, IS THE sha256 OF THE DUMP (.gsa) THAT YtoepdplglablcaaProg.lean LOADS. Nothing in Lean hashes anything: it is a label: what it is worth is what the hold of that sum in a sandbox is worth. -/
noncomputable def Try.pinned : Pinned := { name := "ytoepdplglablcaa", sum := "879b0004d831e7b2069058fcc64fe7f2181745f8b287961f000b02def6c4063c", checked := Try.checked }
namespace Rows
def none {H : Type} : Left H := { results := [], args := [] }

/-- 'ancepslaw56.JournalFrame': WHATEVER THE INPUT: true; the input reads as it did. -/
def journalFrameSpec : ChangeSpec := { name := "journalFrame", fn := fun _ => fun
  | [d] => { results := [.lit (.bool true)], args := [d] }
  | _ => none }
def journalFrameRow : OpenClaim := { program := "ytoepdplglablcaa", sum := "879b0004d831e7b2069058fcc64fe7f2181745f8b287961f000b02def6c4063c", func := "anceps/ancepslaw56.JournalFrame", spec := "journalFrame", apart := false }
def JournalFrameSaid : Prop := journalFrameRow.holds Try.pinned (OpenSpec.ofChange journalFrameSpec)

/-- ITS FALSE NEIGHBOUR: 'it returns false'. Refute it at one input. -/
def journalFrameWrong : ChangeSpec := { name := "journalFrame", fn := fun _ => fun
  | [d] => { results := [.lit (.bool false)], args := [d] }
  | _ => none }
def JournalFrameWrongFalsely : Prop := journalFrameRow.holds Try.pinned (OpenSpec.ofChange journalFrameWrong)

/-- 'ancepslaw56.JournalFrames': WHATEVER THE INPUT: true; the input reads as it did. -/
def journalFramesSpec : ChangeSpec := { name := "journalFrames", fn := fun _ => fun
  | [d] => { results := [.lit (.bool true)], args := [d] }
  | _ => none }
def journalFramesRow : OpenClaim := { program := "ytoepdplglablcaa", sum := "879b0004d831e7b2069058fcc64fe7f2181745f8b287961f000b02def6c4063c", func := "anceps/ancepslaw56.JournalFrames", spec := "journalFrames", apart := false }
def JournalFramesSaid : Prop := journalFramesRow.holds Try.pinned (OpenSpec.ofChange journalFramesSpec)

/-- ITS FALSE NEIGHBOUR: 'it returns false'. Refute it at one input. -/
def journalFramesWrong : ChangeSpec := { name := "journalFrames", fn := fun _ => fun
  | [d] => { results := [.lit (.bool false)], args := [d] }
  | _ => none }
def JournalFramesWrongFalsely : Prop := journalFramesRow.holds Try.pinned (OpenSpec.ofChange journalFramesWrong)

/-- 'ancepslaw56.JournalAppend': WHATEVER THE INPUT: true; the input reads as it did. -/
def journalAppendSpec : ChangeSpec := { name := "journalAppend", fn := fun _ => fun
  | [d1, d2] => { results := [.lit (.bool true)], args := [d1, d2] }
  | _ => none }
def journalAppendRow : OpenClaim := { program := "ytoepdplglablcaa", sum := "879b0004d831e7b2069058fcc64fe7f2181745f8b287961f000b02def6c4063c", func := "anceps/ancepslaw56.JournalAppend", spec := "journalAppend", apart := false }
def JournalAppendSaid : Prop := journalAppendRow.holds Try.pinned (OpenSpec.ofChange journalAppendSpec)

/-- ITS FALSE NEIGHBOUR: 'it returns false'. Refute it at one input. -/
def journalAppendWrong : ChangeSpec := { name := "journalAppend", fn := fun _ => fun
  | [d1, d2] => { results := [.lit (.bool false)], args := [d1, d2] }
  | _ => none }
def JournalAppendWrongFalsely : Prop := journalAppendRow.holds Try.pinned (OpenSpec.ofChange journalAppendWrong)

/-- 'ancepslaw56.JournalCrash': WHATEVER THE INPUT: true; the input reads as it did. -/
def journalCrashSpec : ChangeSpec := { name := "journalCrash", fn := fun _ => fun
  | [d1, d2, d3] => { results := [.lit (.bool true)], args := [d1, d2, d3] }
  | _ => none }
def journalCrashRow : OpenClaim := { program := "ytoepdplglablcaa", sum := "879b0004d831e7b2069058fcc64fe7f2181745f8b287961f000b02def6c4063c", func := "anceps/ancepslaw56.JournalCrash", spec := "journalCrash", apart := false }
def JournalCrashSaid : Prop := journalCrashRow.holds Try.pinned (OpenSpec.ofChange journalCrashSpec)

/-- ITS FALSE NEIGHBOUR: 'it returns false'. Refute it at one input. -/
def journalCrashWrong : ChangeSpec := { name := "journalCrash", fn := fun _ => fun
  | [d1, d2, d3] => { results := [.lit (.bool false)], args := [d1, d2, d3] }
  | _ => none }
def JournalCrashWrongFalsely : Prop := journalCrashRow.holds Try.pinned (OpenSpec.ofChange journalCrashWrong)

/-- 'ancepslaw56.JournalTurn': WHATEVER THE INPUT: true; the input reads as it did. -/
def journalTurnSpec : ChangeSpec := { name := "journalTurn", fn := fun _ => fun
  | [d1, d2] => { results := [.lit (.bool true)], args := [d1, d2] }
  | _ => none }
def journalTurnRow : OpenClaim := { program := "ytoepdplglablcaa", sum := "879b0004d831e7b2069058fcc64fe7f2181745f8b287961f000b02def6c4063c", func := "anceps/ancepslaw56.JournalTurn", spec := "journalTurn", apart := false }
def JournalTurnSaid : Prop := journalTurnRow.holds Try.pinned (OpenSpec.ofChange journalTurnSpec)

/-- ITS FALSE NEIGHBOUR: 'it returns false'. Refute it at one input. -/
def journalTurnWrong : ChangeSpec := { name := "journalTurn", fn := fun _ => fun
  | [d1, d2] => { results := [.lit (.bool false)], args := [d1, d2] }
  | _ => none }
def JournalTurnWrongFalsely : Prop := journalTurnRow.holds Try.pinned (OpenSpec.ofChange journalTurnWrong)

/-- 'ancepslaw56.JournalKeeps': WHATEVER THE INPUT: true; the input reads as it did. -/
def journalKeepsSpec : ChangeSpec := { name := "journalKeeps", fn := fun _ => fun
  | [d1, d2] => { results := [.lit (.bool true)], args := [d1, d2] }
  | _ => none }
def journalKeepsRow : OpenClaim := { program := "ytoepdplglablcaa", sum := "879b0004d831e7b2069058fcc64fe7f2181745f8b287961f000b02def6c4063c", func := "anceps/ancepslaw56.JournalKeeps", spec := "journalKeeps", apart := false }
def JournalKeepsSaid : Prop := journalKeepsRow.holds Try.pinned (OpenSpec.ofChange journalKeepsSpec)

/-- ITS FALSE NEIGHBOUR: 'it returns false'. Refute it at one input. -/
def journalKeepsWrong : ChangeSpec := { name := "journalKeeps", fn := fun _ => fun
  | [d1, d2] => { results := [.lit (.bool false)], args := [d1, d2] }
  | _ => none }
def JournalKeepsWrongFalsely : Prop := journalKeepsRow.holds Try.pinned (OpenSpec.ofChange journalKeepsWrong)

/-- 'ancepslaw56.JournalRecover': WHATEVER THE INPUT: true; the input reads as it did. -/
def journalRecoverSpec : ChangeSpec := { name := "journalRecover", fn := fun _ => fun
  | [d] => { results := [.lit (.bool true)], args := [d] }
  | _ => none }
def journalRecoverRow : OpenClaim := { program := "ytoepdplglablcaa", sum := "879b0004d831e7b2069058fcc64fe7f2181745f8b287961f000b02def6c4063c", func := "anceps/ancepslaw56.JournalRecover", spec := "journalRecover", apart := false }
def JournalRecoverSaid : Prop := journalRecoverRow.holds Try.pinned (OpenSpec.ofChange journalRecoverSpec)

/-- ITS FALSE NEIGHBOUR: 'it returns false'. Refute it at one input. -/
def journalRecoverWrong : ChangeSpec := { name := "journalRecover", fn := fun _ => fun
  | [d] => { results := [.lit (.bool false)], args := [d] }
  | _ => none }
def JournalRecoverWrongFalsely : Prop := journalRecoverRow.holds Try.pinned (OpenSpec.ofChange journalRecoverWrong)

/-- 'ancepslaw56.JournalRuns': WHATEVER THE INPUT: true; the input reads as it did. -/
def journalRunsSpec : ChangeSpec := { name := "journalRuns", fn := fun _ => fun
  | [d] => { results := [.lit (.bool true)], args := [d] }
  | _ => none }
def journalRunsRow : OpenClaim := { program := "ytoepdplglablcaa", sum := "879b0004d831e7b2069058fcc64fe7f2181745f8b287961f000b02def6c4063c", func := "anceps/ancepslaw56.JournalRuns", spec := "journalRuns", apart := false }
def JournalRunsSaid : Prop := journalRunsRow.holds Try.pinned (OpenSpec.ofChange journalRunsSpec)

/-- ITS FALSE NEIGHBOUR: 'it returns false'. Refute it at one input. -/
def journalRunsWrong : ChangeSpec := { name := "journalRuns", fn := fun _ => fun
  | [d] => { results := [.lit (.bool false)], args := [d] }
  | _ => none }
def JournalRunsWrongFalsely : Prop := journalRunsRow.holds Try.pinned (OpenSpec.ofChange journalRunsWrong)

/- THE SECOND FORM. 'bulk': how many values and letters a reading holds, each counted each time it is reached (what is shared counts as often as it is met; a slice's spare places count too). A statement '..UptoSaid' is the law's where the arguments, and the package variables that the reading takes, are together of bulk at most 1048576: NARROWER than '..Said'. Prove '..Said' where nothing that the law and all that it calls make is longer than what came in: it says more and counts as full. Else prove '..UptoSaid'. A law counts once. -/
mutual
def uptoBulk {H : Type} : DataW H → Nat
  | .lit (.string bytes) => bytes.length + 1
  | .lit _ => 1
  | .nil => 1
  | .ptr d => uptoBulk d + 1
  | .slice elems spare => uptoBulkAll elems + uptoBulkAll spare + 1
  | .agg parts => uptoBulkAll parts + 1
  | .iface _ d => uptoBulk d + 1
  | .map entries => uptoBulkEntries entries + 1
  | .held _ => 1
def uptoBulkAll {H : Type} : List (DataW H) → Nat
  | [] => 0
  | d :: r => uptoBulk d + uptoBulkAll r
def uptoBulkEntries {H : Type} : List (Lit × DataW H) → Nat
  | [] => 0
  | x :: r => uptoBulkEntry x + uptoBulkEntries r
def uptoBulkEntry {H : Type} : Lit × DataW H → Nat
  | (.string bytes, d) => bytes.length + uptoBulk d + 1
  | (_, d) => uptoBulk d + 1
 end
def uptoSmall : (H : Type) → List (DataW H) → Bool := fun _ ds => decide (uptoBulkAll ds ≤ 1048576)
def OpenSpec.upto (s : _root_.Go.ChangeSpec) : _root_.Go.OpenSpec := { _root_.Go.OpenSpec.ofChange s with cond := some uptoSmall }

/-- 'ancepslaw56.JournalFrame', WHERE WHAT IT READS IS OF BULK AT MOST 1048576: true; the input reads as it did. -/
def journalFrameUptoRow : OpenClaim := { program := "ytoepdplglablcaa", sum := "879b0004d831e7b2069058fcc64fe7f2181745f8b287961f000b02def6c4063c", func := "anceps/ancepslaw56.JournalFrame", spec := "journalFrame", apart := false, narrowed := true }
def JournalFrameUptoSaid : Prop := journalFrameUptoRow.holds Try.pinned (OpenSpec.upto journalFrameSpec)

/-- 'ancepslaw56.JournalFrames', WHERE WHAT IT READS IS OF BULK AT MOST 1048576: true; the input reads as it did. -/
def journalFramesUptoRow : OpenClaim := { program := "ytoepdplglablcaa", sum := "879b0004d831e7b2069058fcc64fe7f2181745f8b287961f000b02def6c4063c", func := "anceps/ancepslaw56.JournalFrames", spec := "journalFrames", apart := false, narrowed := true }
def JournalFramesUptoSaid : Prop := journalFramesUptoRow.holds Try.pinned (OpenSpec.upto journalFramesSpec)

/-- 'ancepslaw56.JournalAppend', WHERE WHAT IT READS IS OF BULK AT MOST 1048576: true; the input reads as it did. -/
def journalAppendUptoRow : OpenClaim := { program := "ytoepdplglablcaa", sum := "879b0004d831e7b2069058fcc64fe7f2181745f8b287961f000b02def6c4063c", func := "anceps/ancepslaw56.JournalAppend", spec := "journalAppend", apart := false, narrowed := true }
def JournalAppendUptoSaid : Prop := journalAppendUptoRow.holds Try.pinned (OpenSpec.upto journalAppendSpec)

/-- 'ancepslaw56.JournalCrash', WHERE WHAT IT READS IS OF BULK AT MOST 1048576: true; the input reads as it did. -/
def journalCrashUptoRow : OpenClaim := { program := "ytoepdplglablcaa", sum := "879b0004d831e7b2069058fcc64fe7f2181745f8b287961f000b02def6c4063c", func := "anceps/ancepslaw56.JournalCrash", spec := "journalCrash", apart := false, narrowed := true }
def JournalCrashUptoSaid : Prop := journalCrashUptoRow.holds Try.pinned (OpenSpec.upto journalCrashSpec)

/-- 'ancepslaw56.JournalTurn', WHERE WHAT IT READS IS OF BULK AT MOST 1048576: true; the input reads as it did. -/
def journalTurnUptoRow : OpenClaim := { program := "ytoepdplglablcaa", sum := "879b0004d831e7b2069058fcc64fe7f2181745f8b287961f000b02def6c4063c", func := "anceps/ancepslaw56.JournalTurn", spec := "journalTurn", apart := false, narrowed := true }
def JournalTurnUptoSaid : Prop := journalTurnUptoRow.holds Try.pinned (OpenSpec.upto journalTurnSpec)

/-- 'ancepslaw56.JournalKeeps', WHERE WHAT IT READS IS OF BULK AT MOST 1048576: true; the input reads as it did. -/
def journalKeepsUptoRow : OpenClaim := { program := "ytoepdplglablcaa", sum := "879b0004d831e7b2069058fcc64fe7f2181745f8b287961f000b02def6c4063c", func := "anceps/ancepslaw56.JournalKeeps", spec := "journalKeeps", apart := false, narrowed := true }
def JournalKeepsUptoSaid : Prop := journalKeepsUptoRow.holds Try.pinned (OpenSpec.upto journalKeepsSpec)

/-- 'ancepslaw56.JournalRecover', WHERE WHAT IT READS IS OF BULK AT MOST 1048576: true; the input reads as it did. -/
def journalRecoverUptoRow : OpenClaim := { program := "ytoepdplglablcaa", sum := "879b0004d831e7b2069058fcc64fe7f2181745f8b287961f000b02def6c4063c", func := "anceps/ancepslaw56.JournalRecover", spec := "journalRecover", apart := false, narrowed := true }
def JournalRecoverUptoSaid : Prop := journalRecoverUptoRow.holds Try.pinned (OpenSpec.upto journalRecoverSpec)

/-- 'ancepslaw56.JournalRuns', WHERE WHAT IT READS IS OF BULK AT MOST 1048576: true; the input reads as it did. -/
def journalRunsUptoRow : OpenClaim := { program := "ytoepdplglablcaa", sum := "879b0004d831e7b2069058fcc64fe7f2181745f8b287961f000b02def6c4063c", func := "anceps/ancepslaw56.JournalRuns", spec := "journalRuns", apart := false, narrowed := true }
def JournalRunsUptoSaid : Prop := journalRunsUptoRow.holds Try.pinned (OpenSpec.upto journalRunsSpec)

end Rows
end Go.Proofs.Ytoepdplglablcaa
