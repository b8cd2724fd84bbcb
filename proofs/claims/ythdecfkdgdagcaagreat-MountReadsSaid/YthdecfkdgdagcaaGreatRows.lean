/-
  No cell of these rows narrows 'for every input' (looked for: loops, veiled, ifaces, maps, wideKeys, modest, calm, conditions, laid).
  DERIVED. THE GIVEN ROWS OF THIS SEAT. 5 by the template 'for every input the law returns true; each argument reads behind the call as it read before'; 0 by the template 'total and deterministic' (their statements: YthdecfkdgdagcaaGreatTotals.lean).
  GIVEN WITH THE SEED: the statements are not yours to turn. If you find one false, say at which input.
  Laid BY PROGRAM, IN A SANDBOX (cutbox-rows.mjs): the forced cells as the released guide's own fill.sh prints them over the translation d0a55894f5afa056… (all of the seat's roots in one cut). By AI agents, Wed Nov 11 2026. No macro, syntax, notation, axiom, sorry.
-/
import Derived.Test.YthdecfkdgdagcaaGreatChecked
import GoSem.Claim
import GoSem.ClaimJoined
import GoSem.ClaimMapViews
import Derived.JoinedTies
import Derived.KernelRfl
namespace Go.Proofs.YthdecfkdgdagcaaGreat
/- THE CELL 'sum', in the pinned program and in every row, IS THE sha256 OF THE DUMP (.gsa) THAT YthdecfkdgdagcaaGreatProg.lean LOADS. Nothing in Lean hashes anything: it is a label: what it is worth is what the hold of that sum in a sandbox is worth. -/
noncomputable def Tryz.pinned : Pinned := { name := "ythdecfkdgdagcaagreat", sum := "d0a55894f5afa056b1d294a11bf39171290ce1a9ac4fc4cc4b88f295f6921aa3", checked := Tryz.checked }
namespace Rows
def none {H : Type} : Left H := { results := [], args := [] }

/-- 'lamellalaw15.MountLists': WHATEVER THE INPUT: true; the input reads as it did. -/
def mountListsSpec : ChangeSpec := { name := "mountLists", fn := fun _ => fun
  | [d1, d2] => { results := [.lit (.bool true)], args := [d1, d2] }
  | _ => none }
def mountListsRow : OpenClaim := { program := "ythdecfkdgdagcaagreat", sum := "d0a55894f5afa056b1d294a11bf39171290ce1a9ac4fc4cc4b88f295f6921aa3", func := "lamella/lamellalaw15.MountLists", spec := "mountLists", inPlace := ["internal/bytealg.IndexByteString"], unfollowed := true, recurses := true, apart := false }
def MountListsSaid : Prop := mountListsRow.holds Tryz.pinned (OpenSpec.ofChange mountListsSpec)

/-- ITS FALSE NEIGHBOUR: 'it returns false'. Refute it at one input. -/
def mountListsWrong : ChangeSpec := { name := "mountLists", fn := fun _ => fun
  | [d1, d2] => { results := [.lit (.bool false)], args := [d1, d2] }
  | _ => none }
def MountListsWrongFalsely : Prop := mountListsRow.holds Tryz.pinned (OpenSpec.ofChange mountListsWrong)

/-- 'lamellalaw15.MountTrees': WHATEVER THE INPUT: true; the input reads as it did. -/
def mountTreesSpec : ChangeSpec := { name := "mountTrees", fn := fun _ => fun
  | [d] => { results := [.lit (.bool true)], args := [d] }
  | _ => none }
def mountTreesRow : OpenClaim := { program := "ythdecfkdgdagcaagreat", sum := "d0a55894f5afa056b1d294a11bf39171290ce1a9ac4fc4cc4b88f295f6921aa3", func := "lamella/lamellalaw15.MountTrees", spec := "mountTrees", inPlace := ["internal/bytealg.IndexByteString"], unfollowed := true, recurses := true, apart := false }
def MountTreesSaid : Prop := mountTreesRow.holds Tryz.pinned (OpenSpec.ofChange mountTreesSpec)

/-- ITS FALSE NEIGHBOUR: 'it returns false'. Refute it at one input. -/
def mountTreesWrong : ChangeSpec := { name := "mountTrees", fn := fun _ => fun
  | [d] => { results := [.lit (.bool false)], args := [d] }
  | _ => none }
def MountTreesWrongFalsely : Prop := mountTreesRow.holds Tryz.pinned (OpenSpec.ofChange mountTreesWrong)

/-- 'lamellalaw15.MountSpoilt': WHATEVER THE INPUT: true; the input reads as it did. -/
def mountSpoiltSpec : ChangeSpec := { name := "mountSpoilt", fn := fun _ => fun
  | [d1, d2, d3] => { results := [.lit (.bool true)], args := [d1, d2, d3] }
  | _ => none }
def mountSpoiltRow : OpenClaim := { program := "ythdecfkdgdagcaagreat", sum := "d0a55894f5afa056b1d294a11bf39171290ce1a9ac4fc4cc4b88f295f6921aa3", func := "lamella/lamellalaw15.MountSpoilt", spec := "mountSpoilt", inPlace := ["internal/bytealg.IndexByteString"], unfollowed := true, recurses := true, apart := false }
def MountSpoiltSaid : Prop := mountSpoiltRow.holds Tryz.pinned (OpenSpec.ofChange mountSpoiltSpec)

/-- ITS FALSE NEIGHBOUR: 'it returns false'. Refute it at one input. -/
def mountSpoiltWrong : ChangeSpec := { name := "mountSpoilt", fn := fun _ => fun
  | [d1, d2, d3] => { results := [.lit (.bool false)], args := [d1, d2, d3] }
  | _ => none }
def MountSpoiltWrongFalsely : Prop := mountSpoiltRow.holds Tryz.pinned (OpenSpec.ofChange mountSpoiltWrong)

/-- 'lamellalaw15.MountReads': WHATEVER THE INPUT: true; the input reads as it did. -/
def mountReadsSpec : ChangeSpec := { name := "mountReads", fn := fun _ => fun
  | [d1, d2, d3] => { results := [.lit (.bool true)], args := [d1, d2, d3] }
  | _ => none }
def mountReadsRow : OpenClaim := { program := "ythdecfkdgdagcaagreat", sum := "d0a55894f5afa056b1d294a11bf39171290ce1a9ac4fc4cc4b88f295f6921aa3", func := "lamella/lamellalaw15.MountReads", spec := "mountReads", inPlace := ["internal/bytealg.IndexByteString"], unfollowed := true, recurses := true, apart := false }
def MountReadsSaid : Prop := mountReadsRow.holds Tryz.pinned (OpenSpec.ofChange mountReadsSpec)

/-- ITS FALSE NEIGHBOUR: 'it returns false'. Refute it at one input. -/
def mountReadsWrong : ChangeSpec := { name := "mountReads", fn := fun _ => fun
  | [d1, d2, d3] => { results := [.lit (.bool false)], args := [d1, d2, d3] }
  | _ => none }
def MountReadsWrongFalsely : Prop := mountReadsRow.holds Tryz.pinned (OpenSpec.ofChange mountReadsWrong)

/-- 'lamellalaw15.MountAny': WHATEVER THE INPUT: true; the input reads as it did. -/
def mountAnySpec : ChangeSpec := { name := "mountAny", fn := fun _ => fun
  | [d1, d2] => { results := [.lit (.bool true)], args := [d1, d2] }
  | _ => none }
def mountAnyRow : OpenClaim := { program := "ythdecfkdgdagcaagreat", sum := "d0a55894f5afa056b1d294a11bf39171290ce1a9ac4fc4cc4b88f295f6921aa3", func := "lamella/lamellalaw15.MountAny", spec := "mountAny", inPlace := ["internal/bytealg.IndexByteString"], unfollowed := true, recurses := true, apart := false }
def MountAnySaid : Prop := mountAnyRow.holds Tryz.pinned (OpenSpec.ofChange mountAnySpec)

/-- ITS FALSE NEIGHBOUR: 'it returns false'. Refute it at one input. -/
def mountAnyWrong : ChangeSpec := { name := "mountAny", fn := fun _ => fun
  | [d1, d2] => { results := [.lit (.bool false)], args := [d1, d2] }
  | _ => none }
def MountAnyWrongFalsely : Prop := mountAnyRow.holds Tryz.pinned (OpenSpec.ofChange mountAnyWrong)

/- THE SECOND FORM. 'bulk': how many values and letters a reading holds, each counted each time it is reached (what is shared counts as often as it is met; a slice's spare places count too). A statement '..UptoSaid' is the law's where the arguments, and the package variables that the reading takes, are together of bulk at most 1048576: NARROWER than '..Said'. Prove '..Said' where nothing that the law and all that it calls make is longer than what came in: it says more and counts as full. Else prove '..UptoSaid'. A law counts once. -/
mutual
def uptoBulk {H : Type} : DataW H → Nat
  | .lit (.string bytes) => bytes.length + 1
  | .lit _ => 1
  | .nil => 1
  | .ptr d => uptoBulk d + 1
  | .slice elems spare => uptoBulkAll elems + uptoBulkAll spare + 1
  | .agg parts => uptoBulkAll parts + 1
  | .iface _ d => uptoBulk d + 1
  | .map entries => uptoBulkEntries entries + 1
  | .held _ => 1
def uptoBulkAll {H : Type} : List (DataW H) → Nat
  | [] => 0
  | d :: r => uptoBulk d + uptoBulkAll r
def uptoBulkEntries {H : Type} : List (Lit × DataW H) → Nat
  | [] => 0
  | x :: r => uptoBulkEntry x + uptoBulkEntries r
def uptoBulkEntry {H : Type} : Lit × DataW H → Nat
  | (.string bytes, d) => bytes.length + uptoBulk d + 1
  | (_, d) => uptoBulk d + 1
 end
def uptoSmall : (H : Type) → List (DataW H) → Bool := fun _ ds => decide (uptoBulkAll ds ≤ 1048576)
def OpenSpec.upto (s : _root_.Go.ChangeSpec) : _root_.Go.OpenSpec := { _root_.Go.OpenSpec.ofChange s with cond := some uptoSmall }

/-- 'lamellalaw15.MountLists', WHERE WHAT IT READS IS OF BULK AT MOST 1048576: true; the input reads as it did. -/
def mountListsUptoRow : OpenClaim := { program := "ythdecfkdgdagcaagreat", sum := "d0a55894f5afa056b1d294a11bf39171290ce1a9ac4fc4cc4b88f295f6921aa3", func := "lamella/lamellalaw15.MountLists", spec := "mountLists", inPlace := ["internal/bytealg.IndexByteString"], unfollowed := true, recurses := true, apart := false, narrowed := true }
def MountListsUptoSaid : Prop := mountListsUptoRow.holds Tryz.pinned (OpenSpec.upto mountListsSpec)

/-- 'lamellalaw15.MountTrees', WHERE WHAT IT READS IS OF BULK AT MOST 1048576: true; the input reads as it did. -/
def mountTreesUptoRow : OpenClaim := { program := "ythdecfkdgdagcaagreat", sum := "d0a55894f5afa056b1d294a11bf39171290ce1a9ac4fc4cc4b88f295f6921aa3", func := "lamella/lamellalaw15.MountTrees", spec := "mountTrees", inPlace := ["internal/bytealg.IndexByteString"], unfollowed := true, recurses := true, apart := false, narrowed := true }
def MountTreesUptoSaid : Prop := mountTreesUptoRow.holds Tryz.pinned (OpenSpec.upto mountTreesSpec)

/-- 'lamellalaw15.MountSpoilt', WHERE WHAT IT READS IS OF BULK AT MOST 1048576: true; the input reads as it did. -/
def mountSpoiltUptoRow : OpenClaim := { program := "ythdecfkdgdagcaagreat", sum := "d0a55894f5afa056b1d294a11bf39171290ce1a9ac4fc4cc4b88f295f6921aa3", func := "lamella/lamellalaw15.MountSpoilt", spec := "mountSpoilt", inPlace := ["internal/bytealg.IndexByteString"], unfollowed := true, recurses := true, apart := false, narrowed := true }
def MountSpoiltUptoSaid : Prop := mountSpoiltUptoRow.holds Tryz.pinned (OpenSpec.upto mountSpoiltSpec)

/-- 'lamellalaw15.MountReads', WHERE WHAT IT READS IS OF BULK AT MOST 1048576: true; the input reads as it did. -/
def mountReadsUptoRow : OpenClaim := { program := "ythdecfkdgdagcaagreat", sum := "d0a55894f5afa056b1d294a11bf39171290ce1a9ac4fc4cc4b88f295f6921aa3", func := "lamella/lamellalaw15.MountReads", spec := "mountReads", inPlace := ["internal/bytealg.IndexByteString"], unfollowed := true, recurses := true, apart := false, narrowed := true }
def MountReadsUptoSaid : Prop := mountReadsUptoRow.holds Tryz.pinned (OpenSpec.upto mountReadsSpec)

/-- 'lamellalaw15.MountAny', WHERE WHAT IT READS IS OF BULK AT MOST 1048576: true; the input reads as it did. -/
def mountAnyUptoRow : OpenClaim := { program := "ythdecfkdgdagcaagreat", sum := "d0a55894f5afa056b1d294a11bf39171290ce1a9ac4fc4cc4b88f295f6921aa3", func := "lamella/lamellalaw15.MountAny", spec := "mountAny", inPlace := ["internal/bytealg.IndexByteString"], unfollowed := true, recurses := true, apart := false, narrowed := true }
def MountAnyUptoSaid : Prop := mountAnyUptoRow.holds Tryz.pinned (OpenSpec.upto mountAnySpec)

end Rows
end Go.Proofs.YthdecfkdgdagcaaGreat
