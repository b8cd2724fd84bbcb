/-
  No cell of these rows narrows 'for every input' (looked for: loops, veiled, ifaces, maps, wideKeys, modest, calm, conditions, laid).
  DERIVED. THE GIVEN ROWS OF THIS SEAT. 11 by the template 'for every input the law returns true; each argument reads behind the call as it read before'; 0 by the template 'total and deterministic' (their statements: YtapmfoogjkdffaaTotals.lean).
  GIVEN WITH THE SEED: the statements are not yours to turn. If you find one false, say at which input.
  Laid BY PROGRAM, IN A SANDBOX (cutbox-rows.mjs): the forced cells as the released guide's own fill.sh prints them over the translation 265854c59e7fa209… (all of the seat's roots in one cut). By AI agents, Wed Nov 11 2026. No macro, syntax, notation, axiom, sorry.
-/
import Derived.Test.YtapmfoogjkdffaaChecked
import GoSem.Claim
import GoSem.ClaimJoined
import GoSem.ClaimMapViews
import Derived.JoinedTies
import Derived.KernelRfl
namespace Go.Proofs.Ytapmfoogjkdffaa
/- THE CELL 'sum', in the pinned program and in every row, IS THE sha256 OF THE DUMP (.gsa) THAT YtapmfoogjkdffaaProg.lean LOADS. Nothing in Lean hashes anything: it is a label: what it is worth is what the hold of that sum in a sandbox is worth. -/
noncomputable def Try.pinned : Pinned := { name := "ytapmfoogjkdffaa", sum := "265854c59e7fa209dd0038dd88ae4278850e37e70884ad92076a4ecef7b2303d", checked := Try.checked }
namespace Rows
def none {H : Type} : Left H := { results := [], args := [] }

/-- 'lamellalaw13.FragPacks': WHATEVER THE INPUT: true; the input reads as it did. -/
def fragPacksSpec : ChangeSpec := { name := "fragPacks", fn := fun _ => fun
  | [d] => { results := [.lit (.bool true)], args := [d] }
  | _ => none }
def fragPacksRow : OpenClaim := { program := "ytapmfoogjkdffaa", sum := "265854c59e7fa209dd0038dd88ae4278850e37e70884ad92076a4ecef7b2303d", func := "lamella/lamellalaw13.FragPacks", spec := "fragPacks", plainKeys := false, apart := false }
def FragPacksSaid : Prop := fragPacksRow.holds Try.pinned (OpenSpec.ofChange fragPacksSpec)

/-- ITS FALSE NEIGHBOUR: 'it returns false'. Refute it at one input. -/
def fragPacksWrong : ChangeSpec := { name := "fragPacks", fn := fun _ => fun
  | [d] => { results := [.lit (.bool false)], args := [d] }
  | _ => none }
def FragPacksWrongFalsely : Prop := fragPacksRow.holds Try.pinned (OpenSpec.ofChange fragPacksWrong)

/-- 'lamellalaw13.FragApart': WHATEVER THE INPUT: true; the input reads as it did. -/
def fragApartSpec : ChangeSpec := { name := "fragApart", fn := fun _ => fun
  | [d] => { results := [.lit (.bool true)], args := [d] }
  | _ => none }
def fragApartRow : OpenClaim := { program := "ytapmfoogjkdffaa", sum := "265854c59e7fa209dd0038dd88ae4278850e37e70884ad92076a4ecef7b2303d", func := "lamella/lamellalaw13.FragApart", spec := "fragApart", plainKeys := false, apart := false }
def FragApartSaid : Prop := fragApartRow.holds Try.pinned (OpenSpec.ofChange fragApartSpec)

/-- ITS FALSE NEIGHBOUR: 'it returns false'. Refute it at one input. -/
def fragApartWrong : ChangeSpec := { name := "fragApart", fn := fun _ => fun
  | [d] => { results := [.lit (.bool false)], args := [d] }
  | _ => none }
def FragApartWrongFalsely : Prop := fragApartRow.holds Try.pinned (OpenSpec.ofChange fragApartWrong)

/-- 'lamellalaw01.LzPacks': WHATEVER THE INPUT: true; the input reads as it did. -/
def lzPacksSpec : ChangeSpec := { name := "lzPacks", fn := fun _ => fun
  | [d] => { results := [.lit (.bool true)], args := [d] }
  | _ => none }
def lzPacksRow : OpenClaim := { program := "ytapmfoogjkdffaa", sum := "265854c59e7fa209dd0038dd88ae4278850e37e70884ad92076a4ecef7b2303d", func := "lamella/lamellalaw01.LzPacks", spec := "lzPacks", plainKeys := false, apart := false }
def LzPacksSaid : Prop := lzPacksRow.holds Try.pinned (OpenSpec.ofChange lzPacksSpec)

/-- ITS FALSE NEIGHBOUR: 'it returns false'. Refute it at one input. -/
def lzPacksWrong : ChangeSpec := { name := "lzPacks", fn := fun _ => fun
  | [d] => { results := [.lit (.bool false)], args := [d] }
  | _ => none }
def LzPacksWrongFalsely : Prop := lzPacksRow.holds Try.pinned (OpenSpec.ofChange lzPacksWrong)

/-- 'lamellalaw01.LzUnpacks': WHATEVER THE INPUT: true; the input reads as it did. -/
def lzUnpacksSpec : ChangeSpec := { name := "lzUnpacks", fn := fun _ => fun
  | [d1, d2] => { results := [.lit (.bool true)], args := [d1, d2] }
  | _ => none }
def lzUnpacksRow : OpenClaim := { program := "ytapmfoogjkdffaa", sum := "265854c59e7fa209dd0038dd88ae4278850e37e70884ad92076a4ecef7b2303d", func := "lamella/lamellalaw01.LzUnpacks", spec := "lzUnpacks", plainKeys := false, apart := false }
def LzUnpacksSaid : Prop := lzUnpacksRow.holds Try.pinned (OpenSpec.ofChange lzUnpacksSpec)

/-- ITS FALSE NEIGHBOUR: 'it returns false'. Refute it at one input. -/
def lzUnpacksWrong : ChangeSpec := { name := "lzUnpacks", fn := fun _ => fun
  | [d1, d2] => { results := [.lit (.bool false)], args := [d1, d2] }
  | _ => none }
def LzUnpacksWrongFalsely : Prop := lzUnpacksRow.holds Try.pinned (OpenSpec.ofChange lzUnpacksWrong)

/-- 'lamellalaw01.LzBack': WHATEVER THE INPUT: true; the input reads as it did. -/
def lzBackSpec : ChangeSpec := { name := "lzBack", fn := fun _ => fun
  | [d] => { results := [.lit (.bool true)], args := [d] }
  | _ => none }
def lzBackRow : OpenClaim := { program := "ytapmfoogjkdffaa", sum := "265854c59e7fa209dd0038dd88ae4278850e37e70884ad92076a4ecef7b2303d", func := "lamella/lamellalaw01.LzBack", spec := "lzBack", plainKeys := false, apart := false }
def LzBackSaid : Prop := lzBackRow.holds Try.pinned (OpenSpec.ofChange lzBackSpec)

/-- ITS FALSE NEIGHBOUR: 'it returns false'. Refute it at one input. -/
def lzBackWrong : ChangeSpec := { name := "lzBack", fn := fun _ => fun
  | [d] => { results := [.lit (.bool false)], args := [d] }
  | _ => none }
def LzBackWrongFalsely : Prop := lzBackRow.holds Try.pinned (OpenSpec.ofChange lzBackWrong)

/-- 'lamellalaw01.LzShort': WHATEVER THE INPUT: true; the input reads as it did. -/
def lzShortSpec : ChangeSpec := { name := "lzShort", fn := fun _ => fun
  | [d1, d2, d3] => { results := [.lit (.bool true)], args := [d1, d2, d3] }
  | _ => none }
def lzShortRow : OpenClaim := { program := "ytapmfoogjkdffaa", sum := "265854c59e7fa209dd0038dd88ae4278850e37e70884ad92076a4ecef7b2303d", func := "lamella/lamellalaw01.LzShort", spec := "lzShort", plainKeys := false, apart := false }
def LzShortSaid : Prop := lzShortRow.holds Try.pinned (OpenSpec.ofChange lzShortSpec)

/-- ITS FALSE NEIGHBOUR: 'it returns false'. Refute it at one input. -/
def lzShortWrong : ChangeSpec := { name := "lzShort", fn := fun _ => fun
  | [d1, d2, d3] => { results := [.lit (.bool false)], args := [d1, d2, d3] }
  | _ => none }
def LzShortWrongFalsely : Prop := lzShortRow.holds Try.pinned (OpenSpec.ofChange lzShortWrong)

/-- 'lamellalaw01.LzCut': WHATEVER THE INPUT: true; the input reads as it did. -/
def lzCutSpec : ChangeSpec := { name := "lzCut", fn := fun _ => fun
  | [d1, d2, d3] => { results := [.lit (.bool true)], args := [d1, d2, d3] }
  | _ => none }
def lzCutRow : OpenClaim := { program := "ytapmfoogjkdffaa", sum := "265854c59e7fa209dd0038dd88ae4278850e37e70884ad92076a4ecef7b2303d", func := "lamella/lamellalaw01.LzCut", spec := "lzCut", plainKeys := false, apart := false }
def LzCutSaid : Prop := lzCutRow.holds Try.pinned (OpenSpec.ofChange lzCutSpec)

/-- ITS FALSE NEIGHBOUR: 'it returns false'. Refute it at one input. -/
def lzCutWrong : ChangeSpec := { name := "lzCut", fn := fun _ => fun
  | [d1, d2, d3] => { results := [.lit (.bool false)], args := [d1, d2, d3] }
  | _ => none }
def LzCutWrongFalsely : Prop := lzCutRow.holds Try.pinned (OpenSpec.ofChange lzCutWrong)

/-- 'lamellalaw01.LzMatches': WHATEVER THE INPUT: true; the input reads as it did. -/
def lzMatchesSpec : ChangeSpec := { name := "lzMatches", fn := fun _ => fun
  | [d1, d2] => { results := [.lit (.bool true)], args := [d1, d2] }
  | _ => none }
def lzMatchesRow : OpenClaim := { program := "ytapmfoogjkdffaa", sum := "265854c59e7fa209dd0038dd88ae4278850e37e70884ad92076a4ecef7b2303d", func := "lamella/lamellalaw01.LzMatches", spec := "lzMatches", plainKeys := false, apart := false }
def LzMatchesSaid : Prop := lzMatchesRow.holds Try.pinned (OpenSpec.ofChange lzMatchesSpec)

/-- ITS FALSE NEIGHBOUR: 'it returns false'. Refute it at one input. -/
def lzMatchesWrong : ChangeSpec := { name := "lzMatches", fn := fun _ => fun
  | [d1, d2] => { results := [.lit (.bool false)], args := [d1, d2] }
  | _ => none }
def LzMatchesWrongFalsely : Prop := lzMatchesRow.holds Try.pinned (OpenSpec.ofChange lzMatchesWrong)

/-- 'lamellalaw01.LzNearest': WHATEVER THE INPUT: true; the input reads as it did. -/
def lzNearestSpec : ChangeSpec := { name := "lzNearest", fn := fun _ => fun
  | [d1, d2, d3] => { results := [.lit (.bool true)], args := [d1, d2, d3] }
  | _ => none }
def lzNearestRow : OpenClaim := { program := "ytapmfoogjkdffaa", sum := "265854c59e7fa209dd0038dd88ae4278850e37e70884ad92076a4ecef7b2303d", func := "lamella/lamellalaw01.LzNearest", spec := "lzNearest", plainKeys := false, apart := false }
def LzNearestSaid : Prop := lzNearestRow.holds Try.pinned (OpenSpec.ofChange lzNearestSpec)

/-- ITS FALSE NEIGHBOUR: 'it returns false'. Refute it at one input. -/
def lzNearestWrong : ChangeSpec := { name := "lzNearest", fn := fun _ => fun
  | [d1, d2, d3] => { results := [.lit (.bool false)], args := [d1, d2, d3] }
  | _ => none }
def LzNearestWrongFalsely : Prop := lzNearestRow.holds Try.pinned (OpenSpec.ofChange lzNearestWrong)

/-- 'lamellalaw13.FragReads': WHATEVER THE INPUT: true; the input reads as it did. -/
def fragReadsSpec : ChangeSpec := { name := "fragReads", fn := fun _ => fun
  | [d1, d2, d3] => { results := [.lit (.bool true)], args := [d1, d2, d3] }
  | _ => none }
def fragReadsRow : OpenClaim := { program := "ytapmfoogjkdffaa", sum := "265854c59e7fa209dd0038dd88ae4278850e37e70884ad92076a4ecef7b2303d", func := "lamella/lamellalaw13.FragReads", spec := "fragReads", plainKeys := false, apart := false }
def FragReadsSaid : Prop := fragReadsRow.holds Try.pinned (OpenSpec.ofChange fragReadsSpec)

/-- ITS FALSE NEIGHBOUR: 'it returns false'. Refute it at one input. -/
def fragReadsWrong : ChangeSpec := { name := "fragReads", fn := fun _ => fun
  | [d1, d2, d3] => { results := [.lit (.bool false)], args := [d1, d2, d3] }
  | _ => none }
def FragReadsWrongFalsely : Prop := fragReadsRow.holds Try.pinned (OpenSpec.ofChange fragReadsWrong)

/-- 'lamellalaw13.FragBack': WHATEVER THE INPUT: true; the input reads as it did. -/
def fragBackSpec : ChangeSpec := { name := "fragBack", fn := fun _ => fun
  | [d1, d2] => { results := [.lit (.bool true)], args := [d1, d2] }
  | _ => none }
def fragBackRow : OpenClaim := { program := "ytapmfoogjkdffaa", sum := "265854c59e7fa209dd0038dd88ae4278850e37e70884ad92076a4ecef7b2303d", func := "lamella/lamellalaw13.FragBack", spec := "fragBack", unfollowed := true, recurses := true, plainKeys := false, apart := false }
def FragBackSaid : Prop := fragBackRow.holds Try.pinned (OpenSpec.ofChange fragBackSpec)

/-- ITS FALSE NEIGHBOUR: 'it returns false'. Refute it at one input. -/
def fragBackWrong : ChangeSpec := { name := "fragBack", fn := fun _ => fun
  | [d1, d2] => { results := [.lit (.bool false)], args := [d1, d2] }
  | _ => none }
def FragBackWrongFalsely : Prop := fragBackRow.holds Try.pinned (OpenSpec.ofChange fragBackWrong)

/- THE SECOND FORM. 'bulk': how many values and letters a reading holds, each counted each time it is reached (what is shared counts as often as it is met; a slice's spare places count too). A statement '..UptoSaid' is the law's where the arguments, and the package variables that the reading takes, are together of bulk at most 1048576: NARROWER than '..Said'. Prove '..Said' where nothing that the law and all that it calls make is longer than what came in: it says more and counts as full. Else prove '..UptoSaid'. A law counts once. -/
mutual
def uptoBulk {H : Type} : DataW H → Nat
  | .lit (.string bytes) => bytes.length + 1
  | .lit _ => 1
  | .nil => 1
  | .ptr d => uptoBulk d + 1
  | .slice elems spare => uptoBulkAll elems + uptoBulkAll spare + 1
  | .agg parts => uptoBulkAll parts + 1
  | .iface _ d => uptoBulk d + 1
  | .map entries => uptoBulkEntries entries + 1
  | .held _ => 1
def uptoBulkAll {H : Type} : List (DataW H) → Nat
  | [] => 0
  | d :: r => uptoBulk d + uptoBulkAll r
def uptoBulkEntries {H : Type} : List (Lit × DataW H) → Nat
  | [] => 0
  | x :: r => uptoBulkEntry x + uptoBulkEntries r
def uptoBulkEntry {H : Type} : Lit × DataW H → Nat
  | (.string bytes, d) => bytes.length + uptoBulk d + 1
  | (_, d) => uptoBulk d + 1
 end
def uptoSmall : (H : Type) → List (DataW H) → Bool := fun _ ds => decide (uptoBulkAll ds ≤ 1048576)
def OpenSpec.upto (s : _root_.Go.ChangeSpec) : _root_.Go.OpenSpec := { _root_.Go.OpenSpec.ofChange s with cond := some uptoSmall }

/-- 'lamellalaw13.FragPacks', WHERE WHAT IT READS IS OF BULK AT MOST 1048576: true; the input reads as it did. -/
def fragPacksUptoRow : OpenClaim := { program := "ytapmfoogjkdffaa", sum := "265854c59e7fa209dd0038dd88ae4278850e37e70884ad92076a4ecef7b2303d", func := "lamella/lamellalaw13.FragPacks", spec := "fragPacks", plainKeys := false, apart := false, narrowed := true }
def FragPacksUptoSaid : Prop := fragPacksUptoRow.holds Try.pinned (OpenSpec.upto fragPacksSpec)

/-- 'lamellalaw13.FragApart', WHERE WHAT IT READS IS OF BULK AT MOST 1048576: true; the input reads as it did. -/
def fragApartUptoRow : OpenClaim := { program := "ytapmfoogjkdffaa", sum := "265854c59e7fa209dd0038dd88ae4278850e37e70884ad92076a4ecef7b2303d", func := "lamella/lamellalaw13.FragApart", spec := "fragApart", plainKeys := false, apart := false, narrowed := true }
def FragApartUptoSaid : Prop := fragApartUptoRow.holds Try.pinned (OpenSpec.upto fragApartSpec)

/-- 'lamellalaw01.LzPacks', WHERE WHAT IT READS IS OF BULK AT MOST 1048576: true; the input reads as it did. -/
def lzPacksUptoRow : OpenClaim := { program := "ytapmfoogjkdffaa", sum := "265854c59e7fa209dd0038dd88ae4278850e37e70884ad92076a4ecef7b2303d", func := "lamella/lamellalaw01.LzPacks", spec := "lzPacks", plainKeys := false, apart := false, narrowed := true }
def LzPacksUptoSaid : Prop := lzPacksUptoRow.holds Try.pinned (OpenSpec.upto lzPacksSpec)

/-- 'lamellalaw01.LzUnpacks', WHERE WHAT IT READS IS OF BULK AT MOST 1048576: true; the input reads as it did. -/
def lzUnpacksUptoRow : OpenClaim := { program := "ytapmfoogjkdffaa", sum := "265854c59e7fa209dd0038dd88ae4278850e37e70884ad92076a4ecef7b2303d", func := "lamella/lamellalaw01.LzUnpacks", spec := "lzUnpacks", plainKeys := false, apart := false, narrowed := true }
def LzUnpacksUptoSaid : Prop := lzUnpacksUptoRow.holds Try.pinned (OpenSpec.upto lzUnpacksSpec)

/-- 'lamellalaw01.LzBack', WHERE WHAT IT READS IS OF BULK AT MOST 1048576: true; the input reads as it did. -/
def lzBackUptoRow : OpenClaim := { program := "ytapmfoogjkdffaa", sum := "265854c59e7fa209dd0038dd88ae4278850e37e70884ad92076a4ecef7b2303d", func := "lamella/lamellalaw01.LzBack", spec := "lzBack", plainKeys := false, apart := false, narrowed := true }
def LzBackUptoSaid : Prop := lzBackUptoRow.holds Try.pinned (OpenSpec.upto lzBackSpec)

/-- 'lamellalaw01.LzShort', WHERE WHAT IT READS IS OF BULK AT MOST 1048576: true; the input reads as it did. -/
def lzShortUptoRow : OpenClaim := { program := "ytapmfoogjkdffaa", sum := "265854c59e7fa209dd0038dd88ae4278850e37e70884ad92076a4ecef7b2303d", func := "lamella/lamellalaw01.LzShort", spec := "lzShort", plainKeys := false, apart := false, narrowed := true }
def LzShortUptoSaid : Prop := lzShortUptoRow.holds Try.pinned (OpenSpec.upto lzShortSpec)

/-- 'lamellalaw01.LzCut', WHERE WHAT IT READS IS OF BULK AT MOST 1048576: true; the input reads as it did. -/
def lzCutUptoRow : OpenClaim := { program := "ytapmfoogjkdffaa", sum := "265854c59e7fa209dd0038dd88ae4278850e37e70884ad92076a4ecef7b2303d", func := "lamella/lamellalaw01.LzCut", spec := "lzCut", plainKeys := false, apart := false, narrowed := true }
def LzCutUptoSaid : Prop := lzCutUptoRow.holds Try.pinned (OpenSpec.upto lzCutSpec)

/-- 'lamellalaw01.LzMatches', WHERE WHAT IT READS IS OF BULK AT MOST 1048576: true; the input reads as it did. -/
def lzMatchesUptoRow : OpenClaim := { program := "ytapmfoogjkdffaa", sum := "265854c59e7fa209dd0038dd88ae4278850e37e70884ad92076a4ecef7b2303d", func := "lamella/lamellalaw01.LzMatches", spec := "lzMatches", plainKeys := false, apart := false, narrowed := true }
def LzMatchesUptoSaid : Prop := lzMatchesUptoRow.holds Try.pinned (OpenSpec.upto lzMatchesSpec)

/-- 'lamellalaw01.LzNearest', WHERE WHAT IT READS IS OF BULK AT MOST 1048576: true; the input reads as it did. -/
def lzNearestUptoRow : OpenClaim := { program := "ytapmfoogjkdffaa", sum := "265854c59e7fa209dd0038dd88ae4278850e37e70884ad92076a4ecef7b2303d", func := "lamella/lamellalaw01.LzNearest", spec := "lzNearest", plainKeys := false, apart := false, narrowed := true }
def LzNearestUptoSaid : Prop := lzNearestUptoRow.holds Try.pinned (OpenSpec.upto lzNearestSpec)

/-- 'lamellalaw13.FragReads', WHERE WHAT IT READS IS OF BULK AT MOST 1048576: true; the input reads as it did. -/
def fragReadsUptoRow : OpenClaim := { program := "ytapmfoogjkdffaa", sum := "265854c59e7fa209dd0038dd88ae4278850e37e70884ad92076a4ecef7b2303d", func := "lamella/lamellalaw13.FragReads", spec := "fragReads", plainKeys := false, apart := false, narrowed := true }
def FragReadsUptoSaid : Prop := fragReadsUptoRow.holds Try.pinned (OpenSpec.upto fragReadsSpec)

/-- 'lamellalaw13.FragBack', WHERE WHAT IT READS IS OF BULK AT MOST 1048576: true; the input reads as it did. -/
def fragBackUptoRow : OpenClaim := { program := "ytapmfoogjkdffaa", sum := "265854c59e7fa209dd0038dd88ae4278850e37e70884ad92076a4ecef7b2303d", func := "lamella/lamellalaw13.FragBack", spec := "fragBack", unfollowed := true, recurses := true, plainKeys := false, apart := false, narrowed := true }
def FragBackUptoSaid : Prop := fragBackUptoRow.holds Try.pinned (OpenSpec.upto fragBackSpec)

end Rows
end Go.Proofs.Ytapmfoogjkdffaa
