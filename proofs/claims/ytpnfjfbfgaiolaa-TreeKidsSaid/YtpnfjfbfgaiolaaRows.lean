/-
  No cell of these rows narrows 'for every input' (looked for: loops, veiled, ifaces, maps, wideKeys, modest, calm, conditions, laid).
  DERIVED. THE GIVEN ROWS OF THIS SEAT. 7 by the template 'for every input the law returns true; each argument reads behind the call as it read before'; 0 by the template 'total and deterministic' (their statements: YtpnfjfbfgaiolaaTotals.lean).
  GIVEN WITH THE SEED: the statements are not yours to turn. If you find one false, say at which input.
  Laid BY PROGRAM, IN A SANDBOX (cutbox-rows.mjs): the forced cells as the released guide's own fill.sh prints them over the translation 9daee854dba59f04… (all of the seat's roots in one cut). By AI agents, Wed Nov 11 2026. No macro, syntax, notation, axiom, sorry.
-/
import Derived.Test.YtpnfjfbfgaiolaaChecked
import GoSem.Claim
import GoSem.ClaimJoined
import GoSem.ClaimMapViews
import Derived.JoinedTies
import Derived.KernelRfl
namespace Go.Proofs.Ytpnfjfbfgaiolaa
/- THE CELL 'sum', in the pinned program and in every row, IS THE sha256 OF THE DUMP (.gsa) THAT YtpnfjfbfgaiolaaProg.lean LOADS. Nothing in Lean hashes anything: it is a label: what it is worth is what the hold of that sum in a sandbox is worth. -/
noncomputable def Try.pinned : Pinned := { name := "ytpnfjfbfgaiolaa", sum := "9daee854dba59f04d275fe2ed16ae93218d34687ac25ff728759072fd1fb6c0f", checked := Try.checked }
namespace Rows
def none {H : Type} : Left H := { results := [], args := [] }

/-- 'lamellalaw07.TreeChecks': WHATEVER THE INPUT: true; the input reads as it did. -/
def treeChecksSpec : ChangeSpec := { name := "treeChecks", fn := fun _ => fun
  | [d] => { results := [.lit (.bool true)], args := [d] }
  | _ => none }
def treeChecksRow : OpenClaim := { program := "ytpnfjfbfgaiolaa", sum := "9daee854dba59f04d275fe2ed16ae93218d34687ac25ff728759072fd1fb6c0f", func := "lamella/lamellalaw07.TreeChecks", spec := "treeChecks", inPlace := ["internal/abi.NoEscape", "internal/bytealg.MakeNoZero", "internal/bytealg.IndexByteString"], unfollowed := true, recurses := true, apart := false }
def TreeChecksSaid : Prop := treeChecksRow.holds Try.pinned (OpenSpec.ofChange treeChecksSpec)

/-- ITS FALSE NEIGHBOUR: 'it returns false'. Refute it at one input. -/
def treeChecksWrong : ChangeSpec := { name := "treeChecks", fn := fun _ => fun
  | [d] => { results := [.lit (.bool false)], args := [d] }
  | _ => none }
def TreeChecksWrongFalsely : Prop := treeChecksRow.holds Try.pinned (OpenSpec.ofChange treeChecksWrong)

/-- 'lamellalaw07.TreeAlike': WHATEVER THE INPUT: true; the input reads as it did. -/
def treeAlikeSpec : ChangeSpec := { name := "treeAlike", fn := fun _ => fun
  | [d1, d2, d3] => { results := [.lit (.bool true)], args := [d1, d2, d3] }
  | _ => none }
def treeAlikeRow : OpenClaim := { program := "ytpnfjfbfgaiolaa", sum := "9daee854dba59f04d275fe2ed16ae93218d34687ac25ff728759072fd1fb6c0f", func := "lamella/lamellalaw07.TreeAlike", spec := "treeAlike", inPlace := ["internal/abi.NoEscape", "internal/bytealg.MakeNoZero", "internal/bytealg.IndexByteString"], unfollowed := true, recurses := true, apart := false }
def TreeAlikeSaid : Prop := treeAlikeRow.holds Try.pinned (OpenSpec.ofChange treeAlikeSpec)

/-- ITS FALSE NEIGHBOUR: 'it returns false'. Refute it at one input. -/
def treeAlikeWrong : ChangeSpec := { name := "treeAlike", fn := fun _ => fun
  | [d1, d2, d3] => { results := [.lit (.bool false)], args := [d1, d2, d3] }
  | _ => none }
def TreeAlikeWrongFalsely : Prop := treeAlikeRow.holds Try.pinned (OpenSpec.ofChange treeAlikeWrong)

/-- 'lamellalaw07.TreeLooks': WHATEVER THE INPUT: true; the input reads as it did. -/
def treeLooksSpec : ChangeSpec := { name := "treeLooks", fn := fun _ => fun
  | [d1, d2, d3] => { results := [.lit (.bool true)], args := [d1, d2, d3] }
  | _ => none }
def treeLooksRow : OpenClaim := { program := "ytpnfjfbfgaiolaa", sum := "9daee854dba59f04d275fe2ed16ae93218d34687ac25ff728759072fd1fb6c0f", func := "lamella/lamellalaw07.TreeLooks", spec := "treeLooks", inPlace := ["internal/abi.NoEscape", "internal/bytealg.MakeNoZero", "internal/bytealg.IndexByteString"], unfollowed := true, recurses := true, apart := false }
def TreeLooksSaid : Prop := treeLooksRow.holds Try.pinned (OpenSpec.ofChange treeLooksSpec)

/-- ITS FALSE NEIGHBOUR: 'it returns false'. Refute it at one input. -/
def treeLooksWrong : ChangeSpec := { name := "treeLooks", fn := fun _ => fun
  | [d1, d2, d3] => { results := [.lit (.bool false)], args := [d1, d2, d3] }
  | _ => none }
def TreeLooksWrongFalsely : Prop := treeLooksRow.holds Try.pinned (OpenSpec.ofChange treeLooksWrong)

/-- 'lamellalaw07.TreeCanons': WHATEVER THE INPUT: true; the input reads as it did. -/
def treeCanonsSpec : ChangeSpec := { name := "treeCanons", fn := fun _ => fun
  | [d] => { results := [.lit (.bool true)], args := [d] }
  | _ => none }
def treeCanonsRow : OpenClaim := { program := "ytpnfjfbfgaiolaa", sum := "9daee854dba59f04d275fe2ed16ae93218d34687ac25ff728759072fd1fb6c0f", func := "lamella/lamellalaw07.TreeCanons", spec := "treeCanons", inPlace := ["internal/abi.NoEscape", "internal/bytealg.MakeNoZero", "internal/bytealg.IndexByteString"], unfollowed := true, recurses := true, apart := false }
def TreeCanonsSaid : Prop := treeCanonsRow.holds Try.pinned (OpenSpec.ofChange treeCanonsSpec)

/-- ITS FALSE NEIGHBOUR: 'it returns false'. Refute it at one input. -/
def treeCanonsWrong : ChangeSpec := { name := "treeCanons", fn := fun _ => fun
  | [d] => { results := [.lit (.bool false)], args := [d] }
  | _ => none }
def TreeCanonsWrongFalsely : Prop := treeCanonsRow.holds Try.pinned (OpenSpec.ofChange treeCanonsWrong)

/-- 'lamellalaw07.TreeOrder': WHATEVER THE INPUT: true; the input reads as it did. -/
def treeOrderSpec : ChangeSpec := { name := "treeOrder", fn := fun _ => fun
  | [d1, d2, d3] => { results := [.lit (.bool true)], args := [d1, d2, d3] }
  | _ => none }
def treeOrderRow : OpenClaim := { program := "ytpnfjfbfgaiolaa", sum := "9daee854dba59f04d275fe2ed16ae93218d34687ac25ff728759072fd1fb6c0f", func := "lamella/lamellalaw07.TreeOrder", spec := "treeOrder", inPlace := ["internal/abi.NoEscape", "internal/bytealg.MakeNoZero", "internal/bytealg.IndexByteString"], unfollowed := true, recurses := true, apart := false }
def TreeOrderSaid : Prop := treeOrderRow.holds Try.pinned (OpenSpec.ofChange treeOrderSpec)

/-- ITS FALSE NEIGHBOUR: 'it returns false'. Refute it at one input. -/
def treeOrderWrong : ChangeSpec := { name := "treeOrder", fn := fun _ => fun
  | [d1, d2, d3] => { results := [.lit (.bool false)], args := [d1, d2, d3] }
  | _ => none }
def TreeOrderWrongFalsely : Prop := treeOrderRow.holds Try.pinned (OpenSpec.ofChange treeOrderWrong)

/-- 'lamellalaw07.TreeSorted': WHATEVER THE INPUT: true; the input reads as it did. -/
def treeSortedSpec : ChangeSpec := { name := "treeSorted", fn := fun _ => fun
  | [d] => { results := [.lit (.bool true)], args := [d] }
  | _ => none }
def treeSortedRow : OpenClaim := { program := "ytpnfjfbfgaiolaa", sum := "9daee854dba59f04d275fe2ed16ae93218d34687ac25ff728759072fd1fb6c0f", func := "lamella/lamellalaw07.TreeSorted", spec := "treeSorted", inPlace := ["internal/abi.NoEscape", "internal/bytealg.MakeNoZero", "internal/bytealg.IndexByteString"], unfollowed := true, recurses := true, apart := false }
def TreeSortedSaid : Prop := treeSortedRow.holds Try.pinned (OpenSpec.ofChange treeSortedSpec)

/-- ITS FALSE NEIGHBOUR: 'it returns false'. Refute it at one input. -/
def treeSortedWrong : ChangeSpec := { name := "treeSorted", fn := fun _ => fun
  | [d] => { results := [.lit (.bool false)], args := [d] }
  | _ => none }
def TreeSortedWrongFalsely : Prop := treeSortedRow.holds Try.pinned (OpenSpec.ofChange treeSortedWrong)

/-- 'lamellalaw07.TreeKids': WHATEVER THE INPUT: true; the input reads as it did. -/
def treeKidsSpec : ChangeSpec := { name := "treeKids", fn := fun _ => fun
  | [d] => { results := [.lit (.bool true)], args := [d] }
  | _ => none }
def treeKidsRow : OpenClaim := { program := "ytpnfjfbfgaiolaa", sum := "9daee854dba59f04d275fe2ed16ae93218d34687ac25ff728759072fd1fb6c0f", func := "lamella/lamellalaw07.TreeKids", spec := "treeKids", inPlace := ["internal/abi.NoEscape", "internal/bytealg.MakeNoZero", "internal/bytealg.IndexByteString"], unfollowed := true, recurses := true, apart := false }
def TreeKidsSaid : Prop := treeKidsRow.holds Try.pinned (OpenSpec.ofChange treeKidsSpec)

/-- ITS FALSE NEIGHBOUR: 'it returns false'. Refute it at one input. -/
def treeKidsWrong : ChangeSpec := { name := "treeKids", fn := fun _ => fun
  | [d] => { results := [.lit (.bool false)], args := [d] }
  | _ => none }
def TreeKidsWrongFalsely : Prop := treeKidsRow.holds Try.pinned (OpenSpec.ofChange treeKidsWrong)

/- THE SECOND FORM. 'bulk': how many values and letters a reading holds, each counted each time it is reached (what is shared counts as often as it is met; a slice's spare places count too). A statement '..UptoSaid' is the law's where the arguments, and the package variables that the reading takes, are together of bulk at most 1048576: NARROWER than '..Said'. Prove '..Said' where nothing that the law and all that it calls make is longer than what came in: it says more and counts as full. Else prove '..UptoSaid'. A law counts once. -/
mutual
def uptoBulk {H : Type} : DataW H → Nat
  | .lit (.string bytes) => bytes.length + 1
  | .lit _ => 1
  | .nil => 1
  | .ptr d => uptoBulk d + 1
  | .slice elems spare => uptoBulkAll elems + uptoBulkAll spare + 1
  | .agg parts => uptoBulkAll parts + 1
  | .iface _ d => uptoBulk d + 1
  | .map entries => uptoBulkEntries entries + 1
  | .held _ => 1
def uptoBulkAll {H : Type} : List (DataW H) → Nat
  | [] => 0
  | d :: r => uptoBulk d + uptoBulkAll r
def uptoBulkEntries {H : Type} : List (Lit × DataW H) → Nat
  | [] => 0
  | x :: r => uptoBulkEntry x + uptoBulkEntries r
def uptoBulkEntry {H : Type} : Lit × DataW H → Nat
  | (.string bytes, d) => bytes.length + uptoBulk d + 1
  | (_, d) => uptoBulk d + 1
 end
def uptoSmall : (H : Type) → List (DataW H) → Bool := fun _ ds => decide (uptoBulkAll ds ≤ 1048576)
def OpenSpec.upto (s : _root_.Go.ChangeSpec) : _root_.Go.OpenSpec := { _root_.Go.OpenSpec.ofChange s with cond := some uptoSmall }

/-- 'lamellalaw07.TreeChecks', WHERE WHAT IT READS IS OF BULK AT MOST 1048576: true; the input reads as it did. -/
def treeChecksUptoRow : OpenClaim := { program := "ytpnfjfbfgaiolaa", sum := "9daee854dba59f04d275fe2ed16ae93218d34687ac25ff728759072fd1fb6c0f", func := "lamella/lamellalaw07.TreeChecks", spec := "treeChecks", inPlace := ["internal/abi.NoEscape", "internal/bytealg.MakeNoZero", "internal/bytealg.IndexByteString"], unfollowed := true, recurses := true, apart := false, narrowed := true }
def TreeChecksUptoSaid : Prop := treeChecksUptoRow.holds Try.pinned (OpenSpec.upto treeChecksSpec)

/-- 'lamellalaw07.TreeAlike', WHERE WHAT IT READS IS OF BULK AT MOST 1048576: true; the input reads as it did. -/
def treeAlikeUptoRow : OpenClaim := { program := "ytpnfjfbfgaiolaa", sum := "9daee854dba59f04d275fe2ed16ae93218d34687ac25ff728759072fd1fb6c0f", func := "lamella/lamellalaw07.TreeAlike", spec := "treeAlike", inPlace := ["internal/abi.NoEscape", "internal/bytealg.MakeNoZero", "internal/bytealg.IndexByteString"], unfollowed := true, recurses := true, apart := false, narrowed := true }
def TreeAlikeUptoSaid : Prop := treeAlikeUptoRow.holds Try.pinned (OpenSpec.upto treeAlikeSpec)

/-- 'lamellalaw07.TreeLooks', WHERE WHAT IT READS IS OF BULK AT MOST 1048576: true; the input reads as it did. -/
def treeLooksUptoRow : OpenClaim := { program := "ytpnfjfbfgaiolaa", sum := "9daee854dba59f04d275fe2ed16ae93218d34687ac25ff728759072fd1fb6c0f", func := "lamella/lamellalaw07.TreeLooks", spec := "treeLooks", inPlace := ["internal/abi.NoEscape", "internal/bytealg.MakeNoZero", "internal/bytealg.IndexByteString"], unfollowed := true, recurses := true, apart := false, narrowed := true }
def TreeLooksUptoSaid : Prop := treeLooksUptoRow.holds Try.pinned (OpenSpec.upto treeLooksSpec)

/-- 'lamellalaw07.TreeCanons', WHERE WHAT IT READS IS OF BULK AT MOST 1048576: true; the input reads as it did. -/
def treeCanonsUptoRow : OpenClaim := { program := "ytpnfjfbfgaiolaa", sum := "9daee854dba59f04d275fe2ed16ae93218d34687ac25ff728759072fd1fb6c0f", func := "lamella/lamellalaw07.TreeCanons", spec := "treeCanons", inPlace := ["internal/abi.NoEscape", "internal/bytealg.MakeNoZero", "internal/bytealg.IndexByteString"], unfollowed := true, recurses := true, apart := false, narrowed := true }
def TreeCanonsUptoSaid : Prop := treeCanonsUptoRow.holds Try.pinned (OpenSpec.upto treeCanonsSpec)

/-- 'lamellalaw07.TreeOrder', WHERE WHAT IT READS IS OF BULK AT MOST 1048576: true; the input reads as it did. -/
def treeOrderUptoRow : OpenClaim := { program := "ytpnfjfbfgaiolaa", sum := "9daee854dba59f04d275fe2ed16ae93218d34687ac25ff728759072fd1fb6c0f", func := "lamella/lamellalaw07.TreeOrder", spec := "treeOrder", inPlace := ["internal/abi.NoEscape", "internal/bytealg.MakeNoZero", "internal/bytealg.IndexByteString"], unfollowed := true, recurses := true, apart := false, narrowed := true }
def TreeOrderUptoSaid : Prop := treeOrderUptoRow.holds Try.pinned (OpenSpec.upto treeOrderSpec)

/-- 'lamellalaw07.TreeSorted', WHERE WHAT IT READS IS OF BULK AT MOST 1048576: true; the input reads as it did. -/
def treeSortedUptoRow : OpenClaim := { program := "ytpnfjfbfgaiolaa", sum := "9daee854dba59f04d275fe2ed16ae93218d34687ac25ff728759072fd1fb6c0f", func := "lamella/lamellalaw07.TreeSorted", spec := "treeSorted", inPlace := ["internal/abi.NoEscape", "internal/bytealg.MakeNoZero", "internal/bytealg.IndexByteString"], unfollowed := true, recurses := true, apart := false, narrowed := true }
def TreeSortedUptoSaid : Prop := treeSortedUptoRow.holds Try.pinned (OpenSpec.upto treeSortedSpec)

/-- 'lamellalaw07.TreeKids', WHERE WHAT IT READS IS OF BULK AT MOST 1048576: true; the input reads as it did. -/
def treeKidsUptoRow : OpenClaim := { program := "ytpnfjfbfgaiolaa", sum := "9daee854dba59f04d275fe2ed16ae93218d34687ac25ff728759072fd1fb6c0f", func := "lamella/lamellalaw07.TreeKids", spec := "treeKids", inPlace := ["internal/abi.NoEscape", "internal/bytealg.MakeNoZero", "internal/bytealg.IndexByteString"], unfollowed := true, recurses := true, apart := false, narrowed := true }
def TreeKidsUptoSaid : Prop := treeKidsUptoRow.holds Try.pinned (OpenSpec.upto treeKidsSpec)

end Rows
end Go.Proofs.Ytpnfjfbfgaiolaa
