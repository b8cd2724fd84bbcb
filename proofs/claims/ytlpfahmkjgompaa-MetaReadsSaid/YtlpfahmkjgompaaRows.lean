/-
  No cell of these rows narrows 'for every input' (looked for: loops, veiled, ifaces, maps, wideKeys, modest, calm, conditions, laid).
  DERIVED. THE GIVEN ROWS OF THIS SEAT. 11 by the template 'for every input the law returns true; each argument reads behind the call as it read before'; 0 by the template 'total and deterministic' (their statements: YtlpfahmkjgompaaTotals.lean).
  GIVEN WITH THE SEED: the statements are not yours to turn. If you find one false, say at which input.
  Laid BY PROGRAM, IN A SANDBOX (cutbox-rows.mjs): the forced cells as the released guide's own fill.sh prints them over the translation 6f8b6ff47f77598a… (all of the seat's roots in one cut). By AI agents, Wed Nov 11 2026. No macro, syntax, notation, axiom, sorry.
-/
import Derived.Test.YtlpfahmkjgompaaChecked
import GoSem.Claim
import GoSem.ClaimJoined
import GoSem.ClaimMapViews
import Derived.JoinedTies
import Derived.KernelRfl
namespace Go.Proofs.Ytlpfahmkjgompaa
/- THE CELL 'sum', in the pinned program and in every row, IS THE sha256 OF THE DUMP (.gsa) THAT YtlpfahmkjgompaaProg.lean LOADS. Nothing in Lean hashes anything: it is a label: what it is worth is what the hold of that sum in a sandbox is worth. -/
noncomputable def Try.pinned : Pinned := { name := "ytlpfahmkjgompaa", sum := "6f8b6ff47f77598ae9633084b7cd56d46ae7bedfe20d163a9b34595e88c4b119", checked := Try.checked }
namespace Rows
def none {H : Type} : Left H := { results := [], args := [] }

/-- 'lamellalaw04.FramePuts': WHATEVER THE INPUT: true; the input reads as it did. -/
def framePutsSpec : ChangeSpec := { name := "framePuts", fn := fun _ => fun
  | [d] => { results := [.lit (.bool true)], args := [d] }
  | _ => none }
def framePutsRow : OpenClaim := { program := "ytlpfahmkjgompaa", sum := "6f8b6ff47f77598ae9633084b7cd56d46ae7bedfe20d163a9b34595e88c4b119", func := "lamella/lamellalaw04.FramePuts", spec := "framePuts", unfollowed := true, recurses := true, plainKeys := false, apart := false }
def FramePutsSaid : Prop := framePutsRow.holds Try.pinned (OpenSpec.ofChange framePutsSpec)

/-- ITS FALSE NEIGHBOUR: 'it returns false'. Refute it at one input. -/
def framePutsWrong : ChangeSpec := { name := "framePuts", fn := fun _ => fun
  | [d] => { results := [.lit (.bool false)], args := [d] }
  | _ => none }
def FramePutsWrongFalsely : Prop := framePutsRow.holds Try.pinned (OpenSpec.ofChange framePutsWrong)

/-- 'lamellalaw04.FrameShort': WHATEVER THE INPUT: true; the input reads as it did. -/
def frameShortSpec : ChangeSpec := { name := "frameShort", fn := fun _ => fun
  | [d1, d2, d3] => { results := [.lit (.bool true)], args := [d1, d2, d3] }
  | _ => none }
def frameShortRow : OpenClaim := { program := "ytlpfahmkjgompaa", sum := "6f8b6ff47f77598ae9633084b7cd56d46ae7bedfe20d163a9b34595e88c4b119", func := "lamella/lamellalaw04.FrameShort", spec := "frameShort", unfollowed := true, recurses := true, plainKeys := false, apart := false }
def FrameShortSaid : Prop := frameShortRow.holds Try.pinned (OpenSpec.ofChange frameShortSpec)

/-- ITS FALSE NEIGHBOUR: 'it returns false'. Refute it at one input. -/
def frameShortWrong : ChangeSpec := { name := "frameShort", fn := fun _ => fun
  | [d1, d2, d3] => { results := [.lit (.bool false)], args := [d1, d2, d3] }
  | _ => none }
def FrameShortWrongFalsely : Prop := frameShortRow.holds Try.pinned (OpenSpec.ofChange frameShortWrong)

/-- 'lamellalaw04.FrameTakes': WHATEVER THE INPUT: true; the input reads as it did. -/
def frameTakesSpec : ChangeSpec := { name := "frameTakes", fn := fun _ => fun
  | [d1, d2] => { results := [.lit (.bool true)], args := [d1, d2] }
  | _ => none }
def frameTakesRow : OpenClaim := { program := "ytlpfahmkjgompaa", sum := "6f8b6ff47f77598ae9633084b7cd56d46ae7bedfe20d163a9b34595e88c4b119", func := "lamella/lamellalaw04.FrameTakes", spec := "frameTakes", unfollowed := true, recurses := true, plainKeys := false, apart := false }
def FrameTakesSaid : Prop := frameTakesRow.holds Try.pinned (OpenSpec.ofChange frameTakesSpec)

/-- ITS FALSE NEIGHBOUR: 'it returns false'. Refute it at one input. -/
def frameTakesWrong : ChangeSpec := { name := "frameTakes", fn := fun _ => fun
  | [d1, d2] => { results := [.lit (.bool false)], args := [d1, d2] }
  | _ => none }
def FrameTakesWrongFalsely : Prop := frameTakesRow.holds Try.pinned (OpenSpec.ofChange frameTakesWrong)

/-- 'lamellalaw04.FrameBack': WHATEVER THE INPUT: true; the input reads as it did. -/
def frameBackSpec : ChangeSpec := { name := "frameBack", fn := fun _ => fun
  | [d1, d2, d3] => { results := [.lit (.bool true)], args := [d1, d2, d3] }
  | _ => none }
def frameBackRow : OpenClaim := { program := "ytlpfahmkjgompaa", sum := "6f8b6ff47f77598ae9633084b7cd56d46ae7bedfe20d163a9b34595e88c4b119", func := "lamella/lamellalaw04.FrameBack", spec := "frameBack", unfollowed := true, recurses := true, plainKeys := false, apart := false }
def FrameBackSaid : Prop := frameBackRow.holds Try.pinned (OpenSpec.ofChange frameBackSpec)

/-- ITS FALSE NEIGHBOUR: 'it returns false'. Refute it at one input. -/
def frameBackWrong : ChangeSpec := { name := "frameBack", fn := fun _ => fun
  | [d1, d2, d3] => { results := [.lit (.bool false)], args := [d1, d2, d3] }
  | _ => none }
def FrameBackWrongFalsely : Prop := frameBackRow.holds Try.pinned (OpenSpec.ofChange frameBackWrong)

/-- 'lamellalaw04.FrameTurned': WHATEVER THE INPUT: true; the input reads as it did. -/
def frameTurnedSpec : ChangeSpec := { name := "frameTurned", fn := fun _ => fun
  | [d1, d2, d3] => { results := [.lit (.bool true)], args := [d1, d2, d3] }
  | _ => none }
def frameTurnedRow : OpenClaim := { program := "ytlpfahmkjgompaa", sum := "6f8b6ff47f77598ae9633084b7cd56d46ae7bedfe20d163a9b34595e88c4b119", func := "lamella/lamellalaw04.FrameTurned", spec := "frameTurned", unfollowed := true, recurses := true, plainKeys := false, apart := false }
def FrameTurnedSaid : Prop := frameTurnedRow.holds Try.pinned (OpenSpec.ofChange frameTurnedSpec)

/-- ITS FALSE NEIGHBOUR: 'it returns false'. Refute it at one input. -/
def frameTurnedWrong : ChangeSpec := { name := "frameTurned", fn := fun _ => fun
  | [d1, d2, d3] => { results := [.lit (.bool false)], args := [d1, d2, d3] }
  | _ => none }
def FrameTurnedWrongFalsely : Prop := frameTurnedRow.holds Try.pinned (OpenSpec.ofChange frameTurnedWrong)

/-- 'lamellalaw04.FrameRows': WHATEVER THE INPUT: true; the input reads as it did. -/
def frameRowsSpec : ChangeSpec := { name := "frameRows", fn := fun _ => fun
  | [d] => { results := [.lit (.bool true)], args := [d] }
  | _ => none }
def frameRowsRow : OpenClaim := { program := "ytlpfahmkjgompaa", sum := "6f8b6ff47f77598ae9633084b7cd56d46ae7bedfe20d163a9b34595e88c4b119", func := "lamella/lamellalaw04.FrameRows", spec := "frameRows", unfollowed := true, recurses := true, plainKeys := false, apart := false }
def FrameRowsSaid : Prop := frameRowsRow.holds Try.pinned (OpenSpec.ofChange frameRowsSpec)

/-- ITS FALSE NEIGHBOUR: 'it returns false'. Refute it at one input. -/
def frameRowsWrong : ChangeSpec := { name := "frameRows", fn := fun _ => fun
  | [d] => { results := [.lit (.bool false)], args := [d] }
  | _ => none }
def FrameRowsWrongFalsely : Prop := frameRowsRow.holds Try.pinned (OpenSpec.ofChange frameRowsWrong)

/-- 'lamellalaw05.MetaWrites': WHATEVER THE INPUT: true; the input reads as it did. -/
def metaWritesSpec : ChangeSpec := { name := "metaWrites", fn := fun _ => fun
  | [d] => { results := [.lit (.bool true)], args := [d] }
  | _ => none }
def metaWritesRow : OpenClaim := { program := "ytlpfahmkjgompaa", sum := "6f8b6ff47f77598ae9633084b7cd56d46ae7bedfe20d163a9b34595e88c4b119", func := "lamella/lamellalaw05.MetaWrites", spec := "metaWrites", unfollowed := true, recurses := true, plainKeys := false, apart := false }
def MetaWritesSaid : Prop := metaWritesRow.holds Try.pinned (OpenSpec.ofChange metaWritesSpec)

/-- ITS FALSE NEIGHBOUR: 'it returns false'. Refute it at one input. -/
def metaWritesWrong : ChangeSpec := { name := "metaWrites", fn := fun _ => fun
  | [d] => { results := [.lit (.bool false)], args := [d] }
  | _ => none }
def MetaWritesWrongFalsely : Prop := metaWritesRow.holds Try.pinned (OpenSpec.ofChange metaWritesWrong)

/-- 'lamellalaw05.MetaBack': WHATEVER THE INPUT: true; the input reads as it did. -/
def metaBackSpec : ChangeSpec := { name := "metaBack", fn := fun _ => fun
  | [d1, d2] => { results := [.lit (.bool true)], args := [d1, d2] }
  | _ => none }
def metaBackRow : OpenClaim := { program := "ytlpfahmkjgompaa", sum := "6f8b6ff47f77598ae9633084b7cd56d46ae7bedfe20d163a9b34595e88c4b119", func := "lamella/lamellalaw05.MetaBack", spec := "metaBack", unfollowed := true, recurses := true, plainKeys := false, apart := false }
def MetaBackSaid : Prop := metaBackRow.holds Try.pinned (OpenSpec.ofChange metaBackSpec)

/-- ITS FALSE NEIGHBOUR: 'it returns false'. Refute it at one input. -/
def metaBackWrong : ChangeSpec := { name := "metaBack", fn := fun _ => fun
  | [d1, d2] => { results := [.lit (.bool false)], args := [d1, d2] }
  | _ => none }
def MetaBackWrongFalsely : Prop := metaBackRow.holds Try.pinned (OpenSpec.ofChange metaBackWrong)

/-- 'lamellalaw05.MetaAll': WHATEVER THE INPUT: true; the input reads as it did. -/
def metaAllSpec : ChangeSpec := { name := "metaAll", fn := fun _ => fun
  | [d1, d2] => { results := [.lit (.bool true)], args := [d1, d2] }
  | _ => none }
def metaAllRow : OpenClaim := { program := "ytlpfahmkjgompaa", sum := "6f8b6ff47f77598ae9633084b7cd56d46ae7bedfe20d163a9b34595e88c4b119", func := "lamella/lamellalaw05.MetaAll", spec := "metaAll", unfollowed := true, recurses := true, plainKeys := false, apart := false }
def MetaAllSaid : Prop := metaAllRow.holds Try.pinned (OpenSpec.ofChange metaAllSpec)

/-- ITS FALSE NEIGHBOUR: 'it returns false'. Refute it at one input. -/
def metaAllWrong : ChangeSpec := { name := "metaAll", fn := fun _ => fun
  | [d1, d2] => { results := [.lit (.bool false)], args := [d1, d2] }
  | _ => none }
def MetaAllWrongFalsely : Prop := metaAllRow.holds Try.pinned (OpenSpec.ofChange metaAllWrong)

/-- 'lamellalaw05.MetaReads': WHATEVER THE INPUT: true; the input reads as it did. -/
def metaReadsSpec : ChangeSpec := { name := "metaReads", fn := fun _ => fun
  | [d1, d2, d3] => { results := [.lit (.bool true)], args := [d1, d2, d3] }
  | _ => none }
def metaReadsRow : OpenClaim := { program := "ytlpfahmkjgompaa", sum := "6f8b6ff47f77598ae9633084b7cd56d46ae7bedfe20d163a9b34595e88c4b119", func := "lamella/lamellalaw05.MetaReads", spec := "metaReads", unfollowed := true, recurses := true, plainKeys := false, apart := false }
def MetaReadsSaid : Prop := metaReadsRow.holds Try.pinned (OpenSpec.ofChange metaReadsSpec)

/-- ITS FALSE NEIGHBOUR: 'it returns false'. Refute it at one input. -/
def metaReadsWrong : ChangeSpec := { name := "metaReads", fn := fun _ => fun
  | [d1, d2, d3] => { results := [.lit (.bool false)], args := [d1, d2, d3] }
  | _ => none }
def MetaReadsWrongFalsely : Prop := metaReadsRow.holds Try.pinned (OpenSpec.ofChange metaReadsWrong)

/-- 'lamellalaw05.MetaNext': WHATEVER THE INPUT: true; the input reads as it did. -/
def metaNextSpec : ChangeSpec := { name := "metaNext", fn := fun _ => fun
  | [d] => { results := [.lit (.bool true)], args := [d] }
  | _ => none }
def metaNextRow : OpenClaim := { program := "ytlpfahmkjgompaa", sum := "6f8b6ff47f77598ae9633084b7cd56d46ae7bedfe20d163a9b34595e88c4b119", func := "lamella/lamellalaw05.MetaNext", spec := "metaNext", unfollowed := true, recurses := true, plainKeys := false, apart := false }
def MetaNextSaid : Prop := metaNextRow.holds Try.pinned (OpenSpec.ofChange metaNextSpec)

/-- ITS FALSE NEIGHBOUR: 'it returns false'. Refute it at one input. -/
def metaNextWrong : ChangeSpec := { name := "metaNext", fn := fun _ => fun
  | [d] => { results := [.lit (.bool false)], args := [d] }
  | _ => none }
def MetaNextWrongFalsely : Prop := metaNextRow.holds Try.pinned (OpenSpec.ofChange metaNextWrong)

/- THE SECOND FORM. 'bulk': how many values and letters a reading holds, each counted each time it is reached (what is shared counts as often as it is met; a slice's spare places count too). A statement '..UptoSaid' is the law's where the arguments, and the package variables that the reading takes, are together of bulk at most 1048576: NARROWER than '..Said'. Prove '..Said' where nothing that the law and all that it calls make is longer than what came in: it says more and counts as full. Else prove '..UptoSaid'. A law counts once. -/
mutual
def uptoBulk {H : Type} : DataW H → Nat
  | .lit (.string bytes) => bytes.length + 1
  | .lit _ => 1
  | .nil => 1
  | .ptr d => uptoBulk d + 1
  | .slice elems spare => uptoBulkAll elems + uptoBulkAll spare + 1
  | .agg parts => uptoBulkAll parts + 1
  | .iface _ d => uptoBulk d + 1
  | .map entries => uptoBulkEntries entries + 1
  | .held _ => 1
def uptoBulkAll {H : Type} : List (DataW H) → Nat
  | [] => 0
  | d :: r => uptoBulk d + uptoBulkAll r
def uptoBulkEntries {H : Type} : List (Lit × DataW H) → Nat
  | [] => 0
  | x :: r => uptoBulkEntry x + uptoBulkEntries r
def uptoBulkEntry {H : Type} : Lit × DataW H → Nat
  | (.string bytes, d) => bytes.length + uptoBulk d + 1
  | (_, d) => uptoBulk d + 1
 end
def uptoSmall : (H : Type) → List (DataW H) → Bool := fun _ ds => decide (uptoBulkAll ds ≤ 1048576)
def OpenSpec.upto (s : _root_.Go.ChangeSpec) : _root_.Go.OpenSpec := { _root_.Go.OpenSpec.ofChange s with cond := some uptoSmall }

/-- 'lamellalaw04.FramePuts', WHERE WHAT IT READS IS OF BULK AT MOST 1048576: true; the input reads as it did. -/
def framePutsUptoRow : OpenClaim := { program := "ytlpfahmkjgompaa", sum := "6f8b6ff47f77598ae9633084b7cd56d46ae7bedfe20d163a9b34595e88c4b119", func := "lamella/lamellalaw04.FramePuts", spec := "framePuts", unfollowed := true, recurses := true, plainKeys := false, apart := false, narrowed := true }
def FramePutsUptoSaid : Prop := framePutsUptoRow.holds Try.pinned (OpenSpec.upto framePutsSpec)

/-- 'lamellalaw04.FrameShort', WHERE WHAT IT READS IS OF BULK AT MOST 1048576: true; the input reads as it did. -/
def frameShortUptoRow : OpenClaim := { program := "ytlpfahmkjgompaa", sum := "6f8b6ff47f77598ae9633084b7cd56d46ae7bedfe20d163a9b34595e88c4b119", func := "lamella/lamellalaw04.FrameShort", spec := "frameShort", unfollowed := true, recurses := true, plainKeys := false, apart := false, narrowed := true }
def FrameShortUptoSaid : Prop := frameShortUptoRow.holds Try.pinned (OpenSpec.upto frameShortSpec)

/-- 'lamellalaw04.FrameTakes', WHERE WHAT IT READS IS OF BULK AT MOST 1048576: true; the input reads as it did. -/
def frameTakesUptoRow : OpenClaim := { program := "ytlpfahmkjgompaa", sum := "6f8b6ff47f77598ae9633084b7cd56d46ae7bedfe20d163a9b34595e88c4b119", func := "lamella/lamellalaw04.FrameTakes", spec := "frameTakes", unfollowed := true, recurses := true, plainKeys := false, apart := false, narrowed := true }
def FrameTakesUptoSaid : Prop := frameTakesUptoRow.holds Try.pinned (OpenSpec.upto frameTakesSpec)

/-- 'lamellalaw04.FrameBack', WHERE WHAT IT READS IS OF BULK AT MOST 1048576: true; the input reads as it did. -/
def frameBackUptoRow : OpenClaim := { program := "ytlpfahmkjgompaa", sum := "6f8b6ff47f77598ae9633084b7cd56d46ae7bedfe20d163a9b34595e88c4b119", func := "lamella/lamellalaw04.FrameBack", spec := "frameBack", unfollowed := true, recurses := true, plainKeys := false, apart := false, narrowed := true }
def FrameBackUptoSaid : Prop := frameBackUptoRow.holds Try.pinned (OpenSpec.upto frameBackSpec)

/-- 'lamellalaw04.FrameTurned', WHERE WHAT IT READS IS OF BULK AT MOST 1048576: true; the input reads as it did. -/
def frameTurnedUptoRow : OpenClaim := { program := "ytlpfahmkjgompaa", sum := "6f8b6ff47f77598ae9633084b7cd56d46ae7bedfe20d163a9b34595e88c4b119", func := "lamella/lamellalaw04.FrameTurned", spec := "frameTurned", unfollowed := true, recurses := true, plainKeys := false, apart := false, narrowed := true }
def FrameTurnedUptoSaid : Prop := frameTurnedUptoRow.holds Try.pinned (OpenSpec.upto frameTurnedSpec)

/-- 'lamellalaw04.FrameRows', WHERE WHAT IT READS IS OF BULK AT MOST 1048576: true; the input reads as it did. -/
def frameRowsUptoRow : OpenClaim := { program := "ytlpfahmkjgompaa", sum := "6f8b6ff47f77598ae9633084b7cd56d46ae7bedfe20d163a9b34595e88c4b119", func := "lamella/lamellalaw04.FrameRows", spec := "frameRows", unfollowed := true, recurses := true, plainKeys := false, apart := false, narrowed := true }
def FrameRowsUptoSaid : Prop := frameRowsUptoRow.holds Try.pinned (OpenSpec.upto frameRowsSpec)

/-- 'lamellalaw05.MetaWrites', WHERE WHAT IT READS IS OF BULK AT MOST 1048576: true; the input reads as it did. -/
def metaWritesUptoRow : OpenClaim := { program := "ytlpfahmkjgompaa", sum := "6f8b6ff47f77598ae9633084b7cd56d46ae7bedfe20d163a9b34595e88c4b119", func := "lamella/lamellalaw05.MetaWrites", spec := "metaWrites", unfollowed := true, recurses := true, plainKeys := false, apart := false, narrowed := true }
def MetaWritesUptoSaid : Prop := metaWritesUptoRow.holds Try.pinned (OpenSpec.upto metaWritesSpec)

/-- 'lamellalaw05.MetaBack', WHERE WHAT IT READS IS OF BULK AT MOST 1048576: true; the input reads as it did. -/
def metaBackUptoRow : OpenClaim := { program := "ytlpfahmkjgompaa", sum := "6f8b6ff47f77598ae9633084b7cd56d46ae7bedfe20d163a9b34595e88c4b119", func := "lamella/lamellalaw05.MetaBack", spec := "metaBack", unfollowed := true, recurses := true, plainKeys := false, apart := false, narrowed := true }
def MetaBackUptoSaid : Prop := metaBackUptoRow.holds Try.pinned (OpenSpec.upto metaBackSpec)

/-- 'lamellalaw05.MetaAll', WHERE WHAT IT READS IS OF BULK AT MOST 1048576: true; the input reads as it did. -/
def metaAllUptoRow : OpenClaim := { program := "ytlpfahmkjgompaa", sum := "6f8b6ff47f77598ae9633084b7cd56d46ae7bedfe20d163a9b34595e88c4b119", func := "lamella/lamellalaw05.MetaAll", spec := "metaAll", unfollowed := true, recurses := true, plainKeys := false, apart := false, narrowed := true }
def MetaAllUptoSaid : Prop := metaAllUptoRow.holds Try.pinned (OpenSpec.upto metaAllSpec)

/-- 'lamellalaw05.MetaReads', WHERE WHAT IT READS IS OF BULK AT MOST 1048576: true; the input reads as it did. -/
def metaReadsUptoRow : OpenClaim := { program := "ytlpfahmkjgompaa", sum := "6f8b6ff47f77598ae9633084b7cd56d46ae7bedfe20d163a9b34595e88c4b119", func := "lamella/lamellalaw05.MetaReads", spec := "metaReads", unfollowed := true, recurses := true, plainKeys := false, apart := false, narrowed := true }
def MetaReadsUptoSaid : Prop := metaReadsUptoRow.holds Try.pinned (OpenSpec.upto metaReadsSpec)

/-- 'lamellalaw05.MetaNext', WHERE WHAT IT READS IS OF BULK AT MOST 1048576: true; the input reads as it did. -/
def metaNextUptoRow : OpenClaim := { program := "ytlpfahmkjgompaa", sum := "6f8b6ff47f77598ae9633084b7cd56d46ae7bedfe20d163a9b34595e88c4b119", func := "lamella/lamellalaw05.MetaNext", spec := "metaNext", unfollowed := true, recurses := true, plainKeys := false, apart := false, narrowed := true }
def MetaNextUptoSaid : Prop := metaNextUptoRow.holds Try.pinned (OpenSpec.upto metaNextSpec)

end Rows
end Go.Proofs.Ytlpfahmkjgompaa
