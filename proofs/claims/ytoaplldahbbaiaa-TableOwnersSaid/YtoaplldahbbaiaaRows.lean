/-
  No cell of these rows narrows 'for every input' (looked for: loops, veiled, ifaces, maps, wideKeys, modest, calm, conditions, laid).
  DERIVED. THE GIVEN ROWS OF THIS SEAT. 11 by the template 'for every input the law returns true; each argument reads behind the call as it read before'; 0 by the template 'total and deterministic' (their statements: YtoaplldahbbaiaaTotals.lean).
  GIVEN WITH THE SEED: the statements are not yours to turn. If you find one false, say at which input.
  Laid BY PROGRAM, IN A SANDBOX (cutbox-rows.mjs): the forced cells as the released guide's own fill.sh prints them over the translation 9376813bbe1ed4d0… (all of the seat's roots in one cut). By AI agents, Wed Nov 11 2026. No macro, syntax, notation, axiom, sorry.
-/
import Derived.Test.YtoaplldahbbaiaaChecked
import GoSem.Claim
import GoSem.ClaimJoined
import GoSem.ClaimMapViews
import Derived.JoinedTies
import Derived.KernelRfl
namespace Go.Proofs.Ytoaplldahbbaiaa
/- THE CELL 'sum', in the pinned program and in every row, IS THE sha256 OF THE DUMP (.gsa) THAT YtoaplldahbbaiaaProg.lean LOADS. Nothing in Lean hashes anything: it is a label: what it is worth is what the hold of that sum in a sandbox is worth. -/
noncomputable def Try.pinned : Pinned := { name := "ytoaplldahbbaiaa", sum := "9376813bbe1ed4d0bf60bd55e2400b6cfe33a20269c4befbb9b519aa44b2bf04", checked := Try.checked }
namespace Rows
def none {H : Type} : Left H := { results := [], args := [] }

/-- 'lamellalaw11.TablePuts': WHATEVER THE INPUT: true; the input reads as it did. -/
def tablePutsSpec : ChangeSpec := { name := "tablePuts", fn := fun _ => fun
  | [d1, d2, d3] => { results := [.lit (.bool true)], args := [d1, d2, d3] }
  | _ => none }
def tablePutsRow : OpenClaim := { program := "ytoaplldahbbaiaa", sum := "9376813bbe1ed4d0bf60bd55e2400b6cfe33a20269c4befbb9b519aa44b2bf04", func := "lamella/lamellalaw11.TablePuts", spec := "tablePuts", inPlace := ["internal/bytealg.IndexByteString"], plainKeys := false, apart := false }
def TablePutsSaid : Prop := tablePutsRow.holds Try.pinned (OpenSpec.ofChange tablePutsSpec)

/-- ITS FALSE NEIGHBOUR: 'it returns false'. Refute it at one input. -/
def tablePutsWrong : ChangeSpec := { name := "tablePuts", fn := fun _ => fun
  | [d1, d2, d3] => { results := [.lit (.bool false)], args := [d1, d2, d3] }
  | _ => none }
def TablePutsWrongFalsely : Prop := tablePutsRow.holds Try.pinned (OpenSpec.ofChange tablePutsWrong)

/-- 'lamellalaw09.InodePuts': WHATEVER THE INPUT: true; the input reads as it did. -/
def inodePutsSpec : ChangeSpec := { name := "inodePuts", fn := fun _ => fun
  | [d] => { results := [.lit (.bool true)], args := [d] }
  | _ => none }
def inodePutsRow : OpenClaim := { program := "ytoaplldahbbaiaa", sum := "9376813bbe1ed4d0bf60bd55e2400b6cfe33a20269c4befbb9b519aa44b2bf04", func := "lamella/lamellalaw09.InodePuts", spec := "inodePuts", inPlace := ["internal/bytealg.IndexByteString"], unfollowed := true, recurses := true, plainKeys := false, apart := false }
def InodePutsSaid : Prop := inodePutsRow.holds Try.pinned (OpenSpec.ofChange inodePutsSpec)

/-- ITS FALSE NEIGHBOUR: 'it returns false'. Refute it at one input. -/
def inodePutsWrong : ChangeSpec := { name := "inodePuts", fn := fun _ => fun
  | [d] => { results := [.lit (.bool false)], args := [d] }
  | _ => none }
def InodePutsWrongFalsely : Prop := inodePutsRow.holds Try.pinned (OpenSpec.ofChange inodePutsWrong)

/-- 'lamellalaw09.InodeLong': WHATEVER THE INPUT: true; the input reads as it did. -/
def inodeLongSpec : ChangeSpec := { name := "inodeLong", fn := fun _ => fun
  | [d] => { results := [.lit (.bool true)], args := [d] }
  | _ => none }
def inodeLongRow : OpenClaim := { program := "ytoaplldahbbaiaa", sum := "9376813bbe1ed4d0bf60bd55e2400b6cfe33a20269c4befbb9b519aa44b2bf04", func := "lamella/lamellalaw09.InodeLong", spec := "inodeLong", inPlace := ["internal/bytealg.IndexByteString"], unfollowed := true, recurses := true, plainKeys := false, apart := false }
def InodeLongSaid : Prop := inodeLongRow.holds Try.pinned (OpenSpec.ofChange inodeLongSpec)

/-- ITS FALSE NEIGHBOUR: 'it returns false'. Refute it at one input. -/
def inodeLongWrong : ChangeSpec := { name := "inodeLong", fn := fun _ => fun
  | [d] => { results := [.lit (.bool false)], args := [d] }
  | _ => none }
def InodeLongWrongFalsely : Prop := inodeLongRow.holds Try.pinned (OpenSpec.ofChange inodeLongWrong)

/-- 'lamellalaw09.InodeTakes': WHATEVER THE INPUT: true; the input reads as it did. -/
def inodeTakesSpec : ChangeSpec := { name := "inodeTakes", fn := fun _ => fun
  | [d] => { results := [.lit (.bool true)], args := [d] }
  | _ => none }
def inodeTakesRow : OpenClaim := { program := "ytoaplldahbbaiaa", sum := "9376813bbe1ed4d0bf60bd55e2400b6cfe33a20269c4befbb9b519aa44b2bf04", func := "lamella/lamellalaw09.InodeTakes", spec := "inodeTakes", inPlace := ["internal/bytealg.IndexByteString"], unfollowed := true, recurses := true, plainKeys := false, apart := false }
def InodeTakesSaid : Prop := inodeTakesRow.holds Try.pinned (OpenSpec.ofChange inodeTakesSpec)

/-- ITS FALSE NEIGHBOUR: 'it returns false'. Refute it at one input. -/
def inodeTakesWrong : ChangeSpec := { name := "inodeTakes", fn := fun _ => fun
  | [d] => { results := [.lit (.bool false)], args := [d] }
  | _ => none }
def InodeTakesWrongFalsely : Prop := inodeTakesRow.holds Try.pinned (OpenSpec.ofChange inodeTakesWrong)

/-- 'lamellalaw09.InodeBack': WHATEVER THE INPUT: true; the input reads as it did. -/
def inodeBackSpec : ChangeSpec := { name := "inodeBack", fn := fun _ => fun
  | [d] => { results := [.lit (.bool true)], args := [d] }
  | _ => none }
def inodeBackRow : OpenClaim := { program := "ytoaplldahbbaiaa", sum := "9376813bbe1ed4d0bf60bd55e2400b6cfe33a20269c4befbb9b519aa44b2bf04", func := "lamella/lamellalaw09.InodeBack", spec := "inodeBack", inPlace := ["internal/bytealg.IndexByteString"], unfollowed := true, recurses := true, plainKeys := false, apart := false }
def InodeBackSaid : Prop := inodeBackRow.holds Try.pinned (OpenSpec.ofChange inodeBackSpec)

/-- ITS FALSE NEIGHBOUR: 'it returns false'. Refute it at one input. -/
def inodeBackWrong : ChangeSpec := { name := "inodeBack", fn := fun _ => fun
  | [d] => { results := [.lit (.bool false)], args := [d] }
  | _ => none }
def InodeBackWrongFalsely : Prop := inodeBackRow.holds Try.pinned (OpenSpec.ofChange inodeBackWrong)

/-- 'lamellalaw11.TableTakes': WHATEVER THE INPUT: true; the input reads as it did. -/
def tableTakesSpec : ChangeSpec := { name := "tableTakes", fn := fun _ => fun
  | [d1, d2] => { results := [.lit (.bool true)], args := [d1, d2] }
  | _ => none }
def tableTakesRow : OpenClaim := { program := "ytoaplldahbbaiaa", sum := "9376813bbe1ed4d0bf60bd55e2400b6cfe33a20269c4befbb9b519aa44b2bf04", func := "lamella/lamellalaw11.TableTakes", spec := "tableTakes", inPlace := ["internal/bytealg.IndexByteString"], unfollowed := true, recurses := true, plainKeys := false, apart := false }
def TableTakesSaid : Prop := tableTakesRow.holds Try.pinned (OpenSpec.ofChange tableTakesSpec)

/-- ITS FALSE NEIGHBOUR: 'it returns false'. Refute it at one input. -/
def tableTakesWrong : ChangeSpec := { name := "tableTakes", fn := fun _ => fun
  | [d1, d2] => { results := [.lit (.bool false)], args := [d1, d2] }
  | _ => none }
def TableTakesWrongFalsely : Prop := tableTakesRow.holds Try.pinned (OpenSpec.ofChange tableTakesWrong)

/-- 'lamellalaw09.InodeReads': WHATEVER THE INPUT: true; the input reads as it did. -/
def inodeReadsSpec : ChangeSpec := { name := "inodeReads", fn := fun _ => fun
  | [d1, d2] => { results := [.lit (.bool true)], args := [d1, d2] }
  | _ => none }
def inodeReadsRow : OpenClaim := { program := "ytoaplldahbbaiaa", sum := "9376813bbe1ed4d0bf60bd55e2400b6cfe33a20269c4befbb9b519aa44b2bf04", func := "lamella/lamellalaw09.InodeReads", spec := "inodeReads", inPlace := ["internal/bytealg.IndexByteString"], unfollowed := true, recurses := true, plainKeys := false, apart := false }
def InodeReadsSaid : Prop := inodeReadsRow.holds Try.pinned (OpenSpec.ofChange inodeReadsSpec)

/-- ITS FALSE NEIGHBOUR: 'it returns false'. Refute it at one input. -/
def inodeReadsWrong : ChangeSpec := { name := "inodeReads", fn := fun _ => fun
  | [d1, d2] => { results := [.lit (.bool false)], args := [d1, d2] }
  | _ => none }
def InodeReadsWrongFalsely : Prop := inodeReadsRow.holds Try.pinned (OpenSpec.ofChange inodeReadsWrong)

/-- 'lamellalaw11.TableIDs': WHATEVER THE INPUT: true; the input reads as it did. -/
def tableIDsSpec : ChangeSpec := { name := "tableIDs", fn := fun _ => fun
  | [d] => { results := [.lit (.bool true)], args := [d] }
  | _ => none }
def tableIDsRow : OpenClaim := { program := "ytoaplldahbbaiaa", sum := "9376813bbe1ed4d0bf60bd55e2400b6cfe33a20269c4befbb9b519aa44b2bf04", func := "lamella/lamellalaw11.TableIDs", spec := "tableIDs", inPlace := ["internal/bytealg.IndexByteString"], unfollowed := true, recurses := true, plainKeys := false, apart := false }
def TableIDsSaid : Prop := tableIDsRow.holds Try.pinned (OpenSpec.ofChange tableIDsSpec)

/-- ITS FALSE NEIGHBOUR: 'it returns false'. Refute it at one input. -/
def tableIDsWrong : ChangeSpec := { name := "tableIDs", fn := fun _ => fun
  | [d] => { results := [.lit (.bool false)], args := [d] }
  | _ => none }
def TableIDsWrongFalsely : Prop := tableIDsRow.holds Try.pinned (OpenSpec.ofChange tableIDsWrong)

/-- 'lamellalaw11.TableOwners': WHATEVER THE INPUT: true; the input reads as it did. -/
def tableOwnersSpec : ChangeSpec := { name := "tableOwners", fn := fun _ => fun
  | [d] => { results := [.lit (.bool true)], args := [d] }
  | _ => none }
def tableOwnersRow : OpenClaim := { program := "ytoaplldahbbaiaa", sum := "9376813bbe1ed4d0bf60bd55e2400b6cfe33a20269c4befbb9b519aa44b2bf04", func := "lamella/lamellalaw11.TableOwners", spec := "tableOwners", inPlace := ["internal/bytealg.IndexByteString"], unfollowed := true, recurses := true, plainKeys := false, apart := false }
def TableOwnersSaid : Prop := tableOwnersRow.holds Try.pinned (OpenSpec.ofChange tableOwnersSpec)

/-- ITS FALSE NEIGHBOUR: 'it returns false'. Refute it at one input. -/
def tableOwnersWrong : ChangeSpec := { name := "tableOwners", fn := fun _ => fun
  | [d] => { results := [.lit (.bool false)], args := [d] }
  | _ => none }
def TableOwnersWrongFalsely : Prop := tableOwnersRow.holds Try.pinned (OpenSpec.ofChange tableOwnersWrong)

/-- 'lamellalaw11.TableBack': WHATEVER THE INPUT: true; the input reads as it did. -/
def tableBackSpec : ChangeSpec := { name := "tableBack", fn := fun _ => fun
  | [d1, d2] => { results := [.lit (.bool true)], args := [d1, d2] }
  | _ => none }
def tableBackRow : OpenClaim := { program := "ytoaplldahbbaiaa", sum := "9376813bbe1ed4d0bf60bd55e2400b6cfe33a20269c4befbb9b519aa44b2bf04", func := "lamella/lamellalaw11.TableBack", spec := "tableBack", inPlace := ["internal/bytealg.IndexByteString"], unfollowed := true, recurses := true, plainKeys := false, apart := false }
def TableBackSaid : Prop := tableBackRow.holds Try.pinned (OpenSpec.ofChange tableBackSpec)

/-- ITS FALSE NEIGHBOUR: 'it returns false'. Refute it at one input. -/
def tableBackWrong : ChangeSpec := { name := "tableBack", fn := fun _ => fun
  | [d1, d2] => { results := [.lit (.bool false)], args := [d1, d2] }
  | _ => none }
def TableBackWrongFalsely : Prop := tableBackRow.holds Try.pinned (OpenSpec.ofChange tableBackWrong)

/-- 'lamellalaw09.InodeRows': WHATEVER THE INPUT: true; the input reads as it did. -/
def inodeRowsSpec : ChangeSpec := { name := "inodeRows", fn := fun _ => fun
  | [d] => { results := [.lit (.bool true)], args := [d] }
  | _ => none }
def inodeRowsRow : OpenClaim := { program := "ytoaplldahbbaiaa", sum := "9376813bbe1ed4d0bf60bd55e2400b6cfe33a20269c4befbb9b519aa44b2bf04", func := "lamella/lamellalaw09.InodeRows", spec := "inodeRows", inPlace := ["internal/bytealg.IndexByteString"], unfollowed := true, recurses := true, plainKeys := false, apart := false }
def InodeRowsSaid : Prop := inodeRowsRow.holds Try.pinned (OpenSpec.ofChange inodeRowsSpec)

/-- ITS FALSE NEIGHBOUR: 'it returns false'. Refute it at one input. -/
def inodeRowsWrong : ChangeSpec := { name := "inodeRows", fn := fun _ => fun
  | [d] => { results := [.lit (.bool false)], args := [d] }
  | _ => none }
def InodeRowsWrongFalsely : Prop := inodeRowsRow.holds Try.pinned (OpenSpec.ofChange inodeRowsWrong)

/- THE SECOND FORM. 'bulk': how many values and letters a reading holds, each counted each time it is reached (what is shared counts as often as it is met; a slice's spare places count too). A statement '..UptoSaid' is the law's where the arguments, and the package variables that the reading takes, are together of bulk at most 1048576: NARROWER than '..Said'. Prove '..Said' where nothing that the law and all that it calls make is longer than what came in: it says more and counts as full. Else prove '..UptoSaid'. A law counts once. -/
mutual
def uptoBulk {H : Type} : DataW H → Nat
  | .lit (.string bytes) => bytes.length + 1
  | .lit _ => 1
  | .nil => 1
  | .ptr d => uptoBulk d + 1
  | .slice elems spare => uptoBulkAll elems + uptoBulkAll spare + 1
  | .agg parts => uptoBulkAll parts + 1
  | .iface _ d => uptoBulk d + 1
  | .map entries => uptoBulkEntries entries + 1
  | .held _ => 1
def uptoBulkAll {H : Type} : List (DataW H) → Nat
  | [] => 0
  | d :: r => uptoBulk d + uptoBulkAll r
def uptoBulkEntries {H : Type} : List (Lit × DataW H) → Nat
  | [] => 0
  | x :: r => uptoBulkEntry x + uptoBulkEntries r
def uptoBulkEntry {H : Type} : Lit × DataW H → Nat
  | (.string bytes, d) => bytes.length + uptoBulk d + 1
  | (_, d) => uptoBulk d + 1
 end
def uptoSmall : (H : Type) → List (DataW H) → Bool := fun _ ds => decide (uptoBulkAll ds ≤ 1048576)
def OpenSpec.upto (s : _root_.Go.ChangeSpec) : _root_.Go.OpenSpec := { _root_.Go.OpenSpec.ofChange s with cond := some uptoSmall }

/-- 'lamellalaw11.TablePuts', WHERE WHAT IT READS IS OF BULK AT MOST 1048576: true; the input reads as it did. -/
def tablePutsUptoRow : OpenClaim := { program := "ytoaplldahbbaiaa", sum := "9376813bbe1ed4d0bf60bd55e2400b6cfe33a20269c4befbb9b519aa44b2bf04", func := "lamella/lamellalaw11.TablePuts", spec := "tablePuts", inPlace := ["internal/bytealg.IndexByteString"], plainKeys := false, apart := false, narrowed := true }
def TablePutsUptoSaid : Prop := tablePutsUptoRow.holds Try.pinned (OpenSpec.upto tablePutsSpec)

/-- 'lamellalaw09.InodePuts', WHERE WHAT IT READS IS OF BULK AT MOST 1048576: true; the input reads as it did. -/
def inodePutsUptoRow : OpenClaim := { program := "ytoaplldahbbaiaa", sum := "9376813bbe1ed4d0bf60bd55e2400b6cfe33a20269c4befbb9b519aa44b2bf04", func := "lamella/lamellalaw09.InodePuts", spec := "inodePuts", inPlace := ["internal/bytealg.IndexByteString"], unfollowed := true, recurses := true, plainKeys := false, apart := false, narrowed := true }
def InodePutsUptoSaid : Prop := inodePutsUptoRow.holds Try.pinned (OpenSpec.upto inodePutsSpec)

/-- 'lamellalaw09.InodeLong', WHERE WHAT IT READS IS OF BULK AT MOST 1048576: true; the input reads as it did. -/
def inodeLongUptoRow : OpenClaim := { program := "ytoaplldahbbaiaa", sum := "9376813bbe1ed4d0bf60bd55e2400b6cfe33a20269c4befbb9b519aa44b2bf04", func := "lamella/lamellalaw09.InodeLong", spec := "inodeLong", inPlace := ["internal/bytealg.IndexByteString"], unfollowed := true, recurses := true, plainKeys := false, apart := false, narrowed := true }
def InodeLongUptoSaid : Prop := inodeLongUptoRow.holds Try.pinned (OpenSpec.upto inodeLongSpec)

/-- 'lamellalaw09.InodeTakes', WHERE WHAT IT READS IS OF BULK AT MOST 1048576: true; the input reads as it did. -/
def inodeTakesUptoRow : OpenClaim := { program := "ytoaplldahbbaiaa", sum := "9376813bbe1ed4d0bf60bd55e2400b6cfe33a20269c4befbb9b519aa44b2bf04", func := "lamella/lamellalaw09.InodeTakes", spec := "inodeTakes", inPlace := ["internal/bytealg.IndexByteString"], unfollowed := true, recurses := true, plainKeys := false, apart := false, narrowed := true }
def InodeTakesUptoSaid : Prop := inodeTakesUptoRow.holds Try.pinned (OpenSpec.upto inodeTakesSpec)

/-- 'lamellalaw09.InodeBack', WHERE WHAT IT READS IS OF BULK AT MOST 1048576: true; the input reads as it did. -/
def inodeBackUptoRow : OpenClaim := { program := "ytoaplldahbbaiaa", sum := "9376813bbe1ed4d0bf60bd55e2400b6cfe33a20269c4befbb9b519aa44b2bf04", func := "lamella/lamellalaw09.InodeBack", spec := "inodeBack", inPlace := ["internal/bytealg.IndexByteString"], unfollowed := true, recurses := true, plainKeys := false, apart := false, narrowed := true }
def InodeBackUptoSaid : Prop := inodeBackUptoRow.holds Try.pinned (OpenSpec.upto inodeBackSpec)

/-- 'lamellalaw11.TableTakes', WHERE WHAT IT READS IS OF BULK AT MOST 1048576: true; the input reads as it did. -/
def tableTakesUptoRow : OpenClaim := { program := "ytoaplldahbbaiaa", sum := "9376813bbe1ed4d0bf60bd55e2400b6cfe33a20269c4befbb9b519aa44b2bf04", func := "lamella/lamellalaw11.TableTakes", spec := "tableTakes", inPlace := ["internal/bytealg.IndexByteString"], unfollowed := true, recurses := true, plainKeys := false, apart := false, narrowed := true }
def TableTakesUptoSaid : Prop := tableTakesUptoRow.holds Try.pinned (OpenSpec.upto tableTakesSpec)

/-- 'lamellalaw09.InodeReads', WHERE WHAT IT READS IS OF BULK AT MOST 1048576: true; the input reads as it did. -/
def inodeReadsUptoRow : OpenClaim := { program := "ytoaplldahbbaiaa", sum := "9376813bbe1ed4d0bf60bd55e2400b6cfe33a20269c4befbb9b519aa44b2bf04", func := "lamella/lamellalaw09.InodeReads", spec := "inodeReads", inPlace := ["internal/bytealg.IndexByteString"], unfollowed := true, recurses := true, plainKeys := false, apart := false, narrowed := true }
def InodeReadsUptoSaid : Prop := inodeReadsUptoRow.holds Try.pinned (OpenSpec.upto inodeReadsSpec)

/-- 'lamellalaw11.TableIDs', WHERE WHAT IT READS IS OF BULK AT MOST 1048576: true; the input reads as it did. -/
def tableIDsUptoRow : OpenClaim := { program := "ytoaplldahbbaiaa", sum := "9376813bbe1ed4d0bf60bd55e2400b6cfe33a20269c4befbb9b519aa44b2bf04", func := "lamella/lamellalaw11.TableIDs", spec := "tableIDs", inPlace := ["internal/bytealg.IndexByteString"], unfollowed := true, recurses := true, plainKeys := false, apart := false, narrowed := true }
def TableIDsUptoSaid : Prop := tableIDsUptoRow.holds Try.pinned (OpenSpec.upto tableIDsSpec)

/-- 'lamellalaw11.TableOwners', WHERE WHAT IT READS IS OF BULK AT MOST 1048576: true; the input reads as it did. -/
def tableOwnersUptoRow : OpenClaim := { program := "ytoaplldahbbaiaa", sum := "9376813bbe1ed4d0bf60bd55e2400b6cfe33a20269c4befbb9b519aa44b2bf04", func := "lamella/lamellalaw11.TableOwners", spec := "tableOwners", inPlace := ["internal/bytealg.IndexByteString"], unfollowed := true, recurses := true, plainKeys := false, apart := false, narrowed := true }
def TableOwnersUptoSaid : Prop := tableOwnersUptoRow.holds Try.pinned (OpenSpec.upto tableOwnersSpec)

/-- 'lamellalaw11.TableBack', WHERE WHAT IT READS IS OF BULK AT MOST 1048576: true; the input reads as it did. -/
def tableBackUptoRow : OpenClaim := { program := "ytoaplldahbbaiaa", sum := "9376813bbe1ed4d0bf60bd55e2400b6cfe33a20269c4befbb9b519aa44b2bf04", func := "lamella/lamellalaw11.TableBack", spec := "tableBack", inPlace := ["internal/bytealg.IndexByteString"], unfollowed := true, recurses := true, plainKeys := false, apart := false, narrowed := true }
def TableBackUptoSaid : Prop := tableBackUptoRow.holds Try.pinned (OpenSpec.upto tableBackSpec)

/-- 'lamellalaw09.InodeRows', WHERE WHAT IT READS IS OF BULK AT MOST 1048576: true; the input reads as it did. -/
def inodeRowsUptoRow : OpenClaim := { program := "ytoaplldahbbaiaa", sum := "9376813bbe1ed4d0bf60bd55e2400b6cfe33a20269c4befbb9b519aa44b2bf04", func := "lamella/lamellalaw09.InodeRows", spec := "inodeRows", inPlace := ["internal/bytealg.IndexByteString"], unfollowed := true, recurses := true, plainKeys := false, apart := false, narrowed := true }
def InodeRowsUptoSaid : Prop := inodeRowsUptoRow.holds Try.pinned (OpenSpec.upto inodeRowsSpec)

end Rows
end Go.Proofs.Ytoaplldahbbaiaa
