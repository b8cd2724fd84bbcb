/-
  No cell of these rows narrows 'for every input' (looked for: loops, veiled, ifaces, maps, wideKeys, modest, calm, conditions, laid).
  DERIVED. THE GIVEN ROWS OF THIS SEAT. 7 by the template 'for every input the law returns true; each argument reads behind the call as it read before'; 0 by the template 'total and deterministic' (their statements: YtpamandneifemaaTotals.lean).
  GIVEN WITH THE SEED: the statements are not yours to turn. If you find one false, say at which input.
  Laid BY PROGRAM, IN A SANDBOX (cutbox-rows.mjs): the forced cells as the released guide's own fill.sh prints them over the translation 77358acf37f5d452… (all of the seat's roots in one cut). By AI agents, Wed Nov 11 2026. No macro, syntax, notation, axiom, sorry.
-/
import Derived.Test.YtpamandneifemaaChecked
import GoSem.Claim
import GoSem.ClaimJoined
import GoSem.ClaimMapViews
import Derived.JoinedTies
import Derived.KernelRfl
namespace Go.Proofs.Ytpamandneifemaa
/- THE CELL 'sum', in the pinned program and in every row, IS THE sha256 OF THE DUMP (.gsa) THAT YtpamandneifemaaProg.lean LOADS. Nothing in Lean hashes anything: it is a label: what it is worth is what the hold of that sum in a sandbox is worth. -/
noncomputable def Try.pinned : Pinned := { name := "ytpamandneifemaa", sum := "77358acf37f5d452cd0fa546be94e974d6370363a519c54f17f5403dc98eb6f7", checked := Try.checked }
namespace Rows
def none {H : Type} : Left H := { results := [], args := [] }

/-- 'lamellalaw19.MergeTrees': WHATEVER THE INPUT: true; the input reads as it did. -/
def mergeTreesSpec : ChangeSpec := { name := "mergeTrees", fn := fun _ => fun
  | [d] => { results := [.lit (.bool true)], args := [d] }
  | _ => none }
def mergeTreesRow : OpenClaim := { program := "ytpamandneifemaa", sum := "77358acf37f5d452cd0fa546be94e974d6370363a519c54f17f5403dc98eb6f7", func := "lamella/lamellalaw19.MergeTrees", spec := "mergeTrees", inPlace := ["internal/abi.NoEscape", "internal/bytealg.MakeNoZero"], unfollowed := true, recurses := true, plainKeys := false, apart := false }
def MergeTreesSaid : Prop := mergeTreesRow.holds Try.pinned (OpenSpec.ofChange mergeTreesSpec)

/-- ITS FALSE NEIGHBOUR: 'it returns false'. Refute it at one input. -/
def mergeTreesWrong : ChangeSpec := { name := "mergeTrees", fn := fun _ => fun
  | [d] => { results := [.lit (.bool false)], args := [d] }
  | _ => none }
def MergeTreesWrongFalsely : Prop := mergeTreesRow.holds Try.pinned (OpenSpec.ofChange mergeTreesWrong)

/-- 'lamellalaw19.MergeOne': WHATEVER THE INPUT: true; the input reads as it did. -/
def mergeOneSpec : ChangeSpec := { name := "mergeOne", fn := fun _ => fun
  | [d] => { results := [.lit (.bool true)], args := [d] }
  | _ => none }
def mergeOneRow : OpenClaim := { program := "ytpamandneifemaa", sum := "77358acf37f5d452cd0fa546be94e974d6370363a519c54f17f5403dc98eb6f7", func := "lamella/lamellalaw19.MergeOne", spec := "mergeOne", inPlace := ["internal/abi.NoEscape", "internal/bytealg.MakeNoZero"], unfollowed := true, recurses := true, plainKeys := false, apart := false }
def MergeOneSaid : Prop := mergeOneRow.holds Try.pinned (OpenSpec.ofChange mergeOneSpec)

/-- ITS FALSE NEIGHBOUR: 'it returns false'. Refute it at one input. -/
def mergeOneWrong : ChangeSpec := { name := "mergeOne", fn := fun _ => fun
  | [d] => { results := [.lit (.bool false)], args := [d] }
  | _ => none }
def MergeOneWrongFalsely : Prop := mergeOneRow.holds Try.pinned (OpenSpec.ofChange mergeOneWrong)

/-- 'lamellalaw19.MergeHides': WHATEVER THE INPUT: true; the input reads as it did. -/
def mergeHidesSpec : ChangeSpec := { name := "mergeHides", fn := fun _ => fun
  | [d] => { results := [.lit (.bool true)], args := [d] }
  | _ => none }
def mergeHidesRow : OpenClaim := { program := "ytpamandneifemaa", sum := "77358acf37f5d452cd0fa546be94e974d6370363a519c54f17f5403dc98eb6f7", func := "lamella/lamellalaw19.MergeHides", spec := "mergeHides", inPlace := ["internal/abi.NoEscape", "internal/bytealg.MakeNoZero"], unfollowed := true, recurses := true, plainKeys := false, apart := false }
def MergeHidesSaid : Prop := mergeHidesRow.holds Try.pinned (OpenSpec.ofChange mergeHidesSpec)

/-- ITS FALSE NEIGHBOUR: 'it returns false'. Refute it at one input. -/
def mergeHidesWrong : ChangeSpec := { name := "mergeHides", fn := fun _ => fun
  | [d] => { results := [.lit (.bool false)], args := [d] }
  | _ => none }
def MergeHidesWrongFalsely : Prop := mergeHidesRow.holds Try.pinned (OpenSpec.ofChange mergeHidesWrong)

/-- 'lamellalaw19.MergeTree': WHATEVER THE INPUT: true; the input reads as it did. -/
def mergeTreeSpec : ChangeSpec := { name := "mergeTree", fn := fun _ => fun
  | [d] => { results := [.lit (.bool true)], args := [d] }
  | _ => none }
def mergeTreeRow : OpenClaim := { program := "ytpamandneifemaa", sum := "77358acf37f5d452cd0fa546be94e974d6370363a519c54f17f5403dc98eb6f7", func := "lamella/lamellalaw19.MergeTree", spec := "mergeTree", inPlace := ["internal/abi.NoEscape", "internal/bytealg.MakeNoZero"], unfollowed := true, recurses := true, plainKeys := false, apart := false }
def MergeTreeSaid : Prop := mergeTreeRow.holds Try.pinned (OpenSpec.ofChange mergeTreeSpec)

/-- ITS FALSE NEIGHBOUR: 'it returns false'. Refute it at one input. -/
def mergeTreeWrong : ChangeSpec := { name := "mergeTree", fn := fun _ => fun
  | [d] => { results := [.lit (.bool false)], args := [d] }
  | _ => none }
def MergeTreeWrongFalsely : Prop := mergeTreeRow.holds Try.pinned (OpenSpec.ofChange mergeTreeWrong)

/-- 'lamellalaw19.MergeFolds': WHATEVER THE INPUT: true; the input reads as it did. -/
def mergeFoldsSpec : ChangeSpec := { name := "mergeFolds", fn := fun _ => fun
  | [d] => { results := [.lit (.bool true)], args := [d] }
  | _ => none }
def mergeFoldsRow : OpenClaim := { program := "ytpamandneifemaa", sum := "77358acf37f5d452cd0fa546be94e974d6370363a519c54f17f5403dc98eb6f7", func := "lamella/lamellalaw19.MergeFolds", spec := "mergeFolds", inPlace := ["internal/abi.NoEscape", "internal/bytealg.MakeNoZero"], unfollowed := true, recurses := true, plainKeys := false, apart := false }
def MergeFoldsSaid : Prop := mergeFoldsRow.holds Try.pinned (OpenSpec.ofChange mergeFoldsSpec)

/-- ITS FALSE NEIGHBOUR: 'it returns false'. Refute it at one input. -/
def mergeFoldsWrong : ChangeSpec := { name := "mergeFolds", fn := fun _ => fun
  | [d] => { results := [.lit (.bool false)], args := [d] }
  | _ => none }
def MergeFoldsWrongFalsely : Prop := mergeFoldsRow.holds Try.pinned (OpenSpec.ofChange mergeFoldsWrong)

/-- 'lamellalaw19.MergeSame': WHATEVER THE INPUT: true; the input reads as it did. -/
def mergeSameSpec : ChangeSpec := { name := "mergeSame", fn := fun _ => fun
  | [d] => { results := [.lit (.bool true)], args := [d] }
  | _ => none }
def mergeSameRow : OpenClaim := { program := "ytpamandneifemaa", sum := "77358acf37f5d452cd0fa546be94e974d6370363a519c54f17f5403dc98eb6f7", func := "lamella/lamellalaw19.MergeSame", spec := "mergeSame", inPlace := ["internal/abi.NoEscape", "internal/bytealg.MakeNoZero"], unfollowed := true, recurses := true, plainKeys := false, apart := false }
def MergeSameSaid : Prop := mergeSameRow.holds Try.pinned (OpenSpec.ofChange mergeSameSpec)

/-- ITS FALSE NEIGHBOUR: 'it returns false'. Refute it at one input. -/
def mergeSameWrong : ChangeSpec := { name := "mergeSame", fn := fun _ => fun
  | [d] => { results := [.lit (.bool false)], args := [d] }
  | _ => none }
def MergeSameWrongFalsely : Prop := mergeSameRow.holds Try.pinned (OpenSpec.ofChange mergeSameWrong)

/-- 'lamellalaw19.MergeLooks': WHATEVER THE INPUT: true; the input reads as it did. -/
def mergeLooksSpec : ChangeSpec := { name := "mergeLooks", fn := fun _ => fun
  | [d1, d2, d3] => { results := [.lit (.bool true)], args := [d1, d2, d3] }
  | _ => none }
def mergeLooksRow : OpenClaim := { program := "ytpamandneifemaa", sum := "77358acf37f5d452cd0fa546be94e974d6370363a519c54f17f5403dc98eb6f7", func := "lamella/lamellalaw19.MergeLooks", spec := "mergeLooks", inPlace := ["internal/abi.NoEscape", "internal/bytealg.MakeNoZero"], unfollowed := true, recurses := true, plainKeys := false, apart := false }
def MergeLooksSaid : Prop := mergeLooksRow.holds Try.pinned (OpenSpec.ofChange mergeLooksSpec)

/-- ITS FALSE NEIGHBOUR: 'it returns false'. Refute it at one input. -/
def mergeLooksWrong : ChangeSpec := { name := "mergeLooks", fn := fun _ => fun
  | [d1, d2, d3] => { results := [.lit (.bool false)], args := [d1, d2, d3] }
  | _ => none }
def MergeLooksWrongFalsely : Prop := mergeLooksRow.holds Try.pinned (OpenSpec.ofChange mergeLooksWrong)

/- THE SECOND FORM. 'bulk': how many values and letters a reading holds, each counted each time it is reached (what is shared counts as often as it is met; a slice's spare places count too). A statement '..UptoSaid' is the law's where the arguments, and the package variables that the reading takes, are together of bulk at most 1048576: NARROWER than '..Said'. Prove '..Said' where nothing that the law and all that it calls make is longer than what came in: it says more and counts as full. Else prove '..UptoSaid'. A law counts once. -/
mutual
def uptoBulk {H : Type} : DataW H → Nat
  | .lit (.string bytes) => bytes.length + 1
  | .lit _ => 1
  | .nil => 1
  | .ptr d => uptoBulk d + 1
  | .slice elems spare => uptoBulkAll elems + uptoBulkAll spare + 1
  | .agg parts => uptoBulkAll parts + 1
  | .iface _ d => uptoBulk d + 1
  | .map entries => uptoBulkEntries entries + 1
  | .held _ => 1
def uptoBulkAll {H : Type} : List (DataW H) → Nat
  | [] => 0
  | d :: r => uptoBulk d + uptoBulkAll r
def uptoBulkEntries {H : Type} : List (Lit × DataW H) → Nat
  | [] => 0
  | x :: r => uptoBulkEntry x + uptoBulkEntries r
def uptoBulkEntry {H : Type} : Lit × DataW H → Nat
  | (.string bytes, d) => bytes.length + uptoBulk d + 1
  | (_, d) => uptoBulk d + 1
 end
def uptoSmall : (H : Type) → List (DataW H) → Bool := fun _ ds => decide (uptoBulkAll ds ≤ 1048576)
def OpenSpec.upto (s : _root_.Go.ChangeSpec) : _root_.Go.OpenSpec := { _root_.Go.OpenSpec.ofChange s with cond := some uptoSmall }

/-- 'lamellalaw19.MergeTrees', WHERE WHAT IT READS IS OF BULK AT MOST 1048576: true; the input reads as it did. -/
def mergeTreesUptoRow : OpenClaim := { program := "ytpamandneifemaa", sum := "77358acf37f5d452cd0fa546be94e974d6370363a519c54f17f5403dc98eb6f7", func := "lamella/lamellalaw19.MergeTrees", spec := "mergeTrees", inPlace := ["internal/abi.NoEscape", "internal/bytealg.MakeNoZero"], unfollowed := true, recurses := true, plainKeys := false, apart := false, narrowed := true }
def MergeTreesUptoSaid : Prop := mergeTreesUptoRow.holds Try.pinned (OpenSpec.upto mergeTreesSpec)

/-- 'lamellalaw19.MergeOne', WHERE WHAT IT READS IS OF BULK AT MOST 1048576: true; the input reads as it did. -/
def mergeOneUptoRow : OpenClaim := { program := "ytpamandneifemaa", sum := "77358acf37f5d452cd0fa546be94e974d6370363a519c54f17f5403dc98eb6f7", func := "lamella/lamellalaw19.MergeOne", spec := "mergeOne", inPlace := ["internal/abi.NoEscape", "internal/bytealg.MakeNoZero"], unfollowed := true, recurses := true, plainKeys := false, apart := false, narrowed := true }
def MergeOneUptoSaid : Prop := mergeOneUptoRow.holds Try.pinned (OpenSpec.upto mergeOneSpec)

/-- 'lamellalaw19.MergeHides', WHERE WHAT IT READS IS OF BULK AT MOST 1048576: true; the input reads as it did. -/
def mergeHidesUptoRow : OpenClaim := { program := "ytpamandneifemaa", sum := "77358acf37f5d452cd0fa546be94e974d6370363a519c54f17f5403dc98eb6f7", func := "lamella/lamellalaw19.MergeHides", spec := "mergeHides", inPlace := ["internal/abi.NoEscape", "internal/bytealg.MakeNoZero"], unfollowed := true, recurses := true, plainKeys := false, apart := false, narrowed := true }
def MergeHidesUptoSaid : Prop := mergeHidesUptoRow.holds Try.pinned (OpenSpec.upto mergeHidesSpec)

/-- 'lamellalaw19.MergeTree', WHERE WHAT IT READS IS OF BULK AT MOST 1048576: true; the input reads as it did. -/
def mergeTreeUptoRow : OpenClaim := { program := "ytpamandneifemaa", sum := "77358acf37f5d452cd0fa546be94e974d6370363a519c54f17f5403dc98eb6f7", func := "lamella/lamellalaw19.MergeTree", spec := "mergeTree", inPlace := ["internal/abi.NoEscape", "internal/bytealg.MakeNoZero"], unfollowed := true, recurses := true, plainKeys := false, apart := false, narrowed := true }
def MergeTreeUptoSaid : Prop := mergeTreeUptoRow.holds Try.pinned (OpenSpec.upto mergeTreeSpec)

/-- 'lamellalaw19.MergeFolds', WHERE WHAT IT READS IS OF BULK AT MOST 1048576: true; the input reads as it did. -/
def mergeFoldsUptoRow : OpenClaim := { program := "ytpamandneifemaa", sum := "77358acf37f5d452cd0fa546be94e974d6370363a519c54f17f5403dc98eb6f7", func := "lamella/lamellalaw19.MergeFolds", spec := "mergeFolds", inPlace := ["internal/abi.NoEscape", "internal/bytealg.MakeNoZero"], unfollowed := true, recurses := true, plainKeys := false, apart := false, narrowed := true }
def MergeFoldsUptoSaid : Prop := mergeFoldsUptoRow.holds Try.pinned (OpenSpec.upto mergeFoldsSpec)

/-- 'lamellalaw19.MergeSame', WHERE WHAT IT READS IS OF BULK AT MOST 1048576: true; the input reads as it did. -/
def mergeSameUptoRow : OpenClaim := { program := "ytpamandneifemaa", sum := "77358acf37f5d452cd0fa546be94e974d6370363a519c54f17f5403dc98eb6f7", func := "lamella/lamellalaw19.MergeSame", spec := "mergeSame", inPlace := ["internal/abi.NoEscape", "internal/bytealg.MakeNoZero"], unfollowed := true, recurses := true, plainKeys := false, apart := false, narrowed := true }
def MergeSameUptoSaid : Prop := mergeSameUptoRow.holds Try.pinned (OpenSpec.upto mergeSameSpec)

/-- 'lamellalaw19.MergeLooks', WHERE WHAT IT READS IS OF BULK AT MOST 1048576: true; the input reads as it did. -/
def mergeLooksUptoRow : OpenClaim := { program := "ytpamandneifemaa", sum := "77358acf37f5d452cd0fa546be94e974d6370363a519c54f17f5403dc98eb6f7", func := "lamella/lamellalaw19.MergeLooks", spec := "mergeLooks", inPlace := ["internal/abi.NoEscape", "internal/bytealg.MakeNoZero"], unfollowed := true, recurses := true, plainKeys := false, apart := false, narrowed := true }
def MergeLooksUptoSaid : Prop := mergeLooksUptoRow.holds Try.pinned (OpenSpec.upto mergeLooksSpec)

end Rows
end Go.Proofs.Ytpamandneifemaa
