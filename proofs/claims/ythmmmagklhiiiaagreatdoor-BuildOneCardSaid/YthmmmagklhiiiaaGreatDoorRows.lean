/-
  NARROWER THAN 'FOR EVERY INPUT', by the rows' own cells (each row's printed sentence says how): BuildImages: laid · BuildOrder: laid · BuildOnce: laid · BuildOne: laid · BuildShort: laid.
  DERIVED. THE GIVEN ROWS OF THIS SEAT. 5 by the template 'for every input the law returns true; each argument reads behind the call as it read before'; 0 by the template 'total and deterministic' (their statements: YthmmmagklhiiiaaGreatDoorTotals.lean).
  GIVEN WITH THE SEED: the statements are not yours to turn. If you find one false, say at which input.
  Laid BY PROGRAM, IN A SANDBOX (cutbox-rows.mjs): the forced cells as the released guide's own fill.sh prints them over the translation d0efe1fcc31d0829… (all of the seat's roots in one cut). By AI agents, Wed Nov 11 2026. No macro, syntax, notation, axiom, sorry.
-/
import Derived.Test.YthmmmagklhiiiaaGreatDoorChecked
import GoSem.PinnedTables
import GoSem.Claim
import GoSem.ClaimJoined
import GoSem.ClaimMapViews
import Derived.JoinedTies
import Derived.KernelRfl
namespace Go.Proofs.YthmmmagklhiiiaaGreatDoor
/- THE CELL 'sum', in the pinned program and in every row, IS THE sha256 OF THE DUMP (.gsa) THAT YthmmmagklhiiiaaGreatDoorProg.lean LOADS. Nothing in Lean hashes anything: it is a label: what it is worth is what the hold of that sum in a sandbox is worth. -/
noncomputable def Tryz.pinned : Pinned := { name := "ythmmmagklhiiiaagreatdoor", sum := "d0efe1fcc31d08290d2873926a57979423c43afad690edaa48630af60fda7238", checked := Tryz.checked }
namespace Rows
def none {H : Type} : Left H := { results := [], args := [] }

/- WHAT THE LISTED PACKAGE-LEVEL VARIABLES READ AS WHEN THE CALL BEGINS. Each datum BY PROGRAM (the guide's laid-datum.mjs) off the statement by which the dump's own 'gosem.cut.vars' lays the variable. In a bare row this is a premise. The card (YthmmmagklhiiiaaGreatDoorCards.lean) ties it to the program's text. -/
def laid_unicode_utf8_acceptRanges {H : Type} : DataW H := .agg [.agg [.lit (.int .u8 128), .lit (.int .u8 191)], .agg [.lit (.int .u8 160), .lit (.int .u8 191)], .agg [.lit (.int .u8 128), .lit (.int .u8 159)], .agg [.lit (.int .u8 144), .lit (.int .u8 191)], .agg [.lit (.int .u8 128), .lit (.int .u8 143)], .agg [.lit (.int .u8 0), .lit (.int .u8 0)], .agg [.lit (.int .u8 0), .lit (.int .u8 0)], .agg [.lit (.int .u8 0), .lit (.int .u8 0)], .agg [.lit (.int .u8 0), .lit (.int .u8 0)], .agg [.lit (.int .u8 0), .lit (.int .u8 0)], .agg [.lit (.int .u8 0), .lit (.int .u8 0)], .agg [.lit (.int .u8 0), .lit (.int .u8 0)], .agg [.lit (.int .u8 0), .lit (.int .u8 0)], .agg [.lit (.int .u8 0), .lit (.int .u8 0)], .agg [.lit (.int .u8 0), .lit (.int .u8 0)], .agg [.lit (.int .u8 0), .lit (.int .u8 0)]]
/-- One of Go's own tables, pinned by name: the form's constant. -/
def laid_unicode_utf8_first : DataW Unit := Go.Pinned.utf8First

/-- 'lamellalaw14.BuildImages': WHATEVER THE INPUT: true; the input reads as it did. -/
def buildImagesSpec : ChangeSpec := { name := "buildImages", fn := fun _ => fun
  | [d] => { results := [.lit (.bool true)], args := [d] }
  | _ => none }
def buildImagesRow : OpenClaim := { program := "ythmmmagklhiiiaagreatdoor", sum := "d0efe1fcc31d08290d2873926a57979423c43afad690edaa48630af60fda7238", func := "lamella/lamellalaw14.BuildImages", spec := "buildImages", inPlace := ["internal/abi.NoEscape", "internal/bytealg.MakeNoZero", "internal/bytealg.IndexByteString"], unfollowed := true, recurses := true, named := ["unicode/utf8.first", "unicode/utf8.acceptRanges"], plainKeys := false, apart := false, laid := [("unicode/utf8.acceptRanges", laid_unicode_utf8_acceptRanges), ("unicode/utf8.first", laid_unicode_utf8_first)] }
def BuildImagesSaid : Prop := buildImagesRow.holds Tryz.pinned (OpenSpec.ofChange buildImagesSpec)

/-- ITS FALSE NEIGHBOUR: 'it returns false'. Refute it at one input. -/
def buildImagesWrong : ChangeSpec := { name := "buildImages", fn := fun _ => fun
  | [d] => { results := [.lit (.bool false)], args := [d] }
  | _ => none }
def BuildImagesWrongFalsely : Prop := buildImagesRow.holds Tryz.pinned (OpenSpec.ofChange buildImagesWrong)

/-- 'lamellalaw14.BuildOrder': WHATEVER THE INPUT: true; the input reads as it did. -/
def buildOrderSpec : ChangeSpec := { name := "buildOrder", fn := fun _ => fun
  | [d1, d2, d3] => { results := [.lit (.bool true)], args := [d1, d2, d3] }
  | _ => none }
def buildOrderRow : OpenClaim := { program := "ythmmmagklhiiiaagreatdoor", sum := "d0efe1fcc31d08290d2873926a57979423c43afad690edaa48630af60fda7238", func := "lamella/lamellalaw14.BuildOrder", spec := "buildOrder", inPlace := ["internal/abi.NoEscape", "internal/bytealg.MakeNoZero", "internal/bytealg.IndexByteString"], unfollowed := true, recurses := true, named := ["unicode/utf8.first", "unicode/utf8.acceptRanges"], plainKeys := false, apart := false, laid := [("unicode/utf8.acceptRanges", laid_unicode_utf8_acceptRanges), ("unicode/utf8.first", laid_unicode_utf8_first)] }
def BuildOrderSaid : Prop := buildOrderRow.holds Tryz.pinned (OpenSpec.ofChange buildOrderSpec)

/-- ITS FALSE NEIGHBOUR: 'it returns false'. Refute it at one input. -/
def buildOrderWrong : ChangeSpec := { name := "buildOrder", fn := fun _ => fun
  | [d1, d2, d3] => { results := [.lit (.bool false)], args := [d1, d2, d3] }
  | _ => none }
def BuildOrderWrongFalsely : Prop := buildOrderRow.holds Tryz.pinned (OpenSpec.ofChange buildOrderWrong)

/-- 'lamellalaw14.BuildOnce': WHATEVER THE INPUT: true; the input reads as it did. -/
def buildOnceSpec : ChangeSpec := { name := "buildOnce", fn := fun _ => fun
  | [d] => { results := [.lit (.bool true)], args := [d] }
  | _ => none }
def buildOnceRow : OpenClaim := { program := "ythmmmagklhiiiaagreatdoor", sum := "d0efe1fcc31d08290d2873926a57979423c43afad690edaa48630af60fda7238", func := "lamella/lamellalaw14.BuildOnce", spec := "buildOnce", inPlace := ["internal/abi.NoEscape", "internal/bytealg.MakeNoZero", "internal/bytealg.IndexByteString"], unfollowed := true, recurses := true, named := ["unicode/utf8.first", "unicode/utf8.acceptRanges"], plainKeys := false, apart := false, laid := [("unicode/utf8.acceptRanges", laid_unicode_utf8_acceptRanges), ("unicode/utf8.first", laid_unicode_utf8_first)] }
def BuildOnceSaid : Prop := buildOnceRow.holds Tryz.pinned (OpenSpec.ofChange buildOnceSpec)

/-- ITS FALSE NEIGHBOUR: 'it returns false'. Refute it at one input. -/
def buildOnceWrong : ChangeSpec := { name := "buildOnce", fn := fun _ => fun
  | [d] => { results := [.lit (.bool false)], args := [d] }
  | _ => none }
def BuildOnceWrongFalsely : Prop := buildOnceRow.holds Tryz.pinned (OpenSpec.ofChange buildOnceWrong)

/-- 'lamellalaw14.BuildOne': WHATEVER THE INPUT: true; the input reads as it did. -/
def buildOneSpec : ChangeSpec := { name := "buildOne", fn := fun _ => fun
  | [d1, d2] => { results := [.lit (.bool true)], args := [d1, d2] }
  | _ => none }
def buildOneRow : OpenClaim := { program := "ythmmmagklhiiiaagreatdoor", sum := "d0efe1fcc31d08290d2873926a57979423c43afad690edaa48630af60fda7238", func := "lamella/lamellalaw14.BuildOne", spec := "buildOne", inPlace := ["internal/abi.NoEscape", "internal/bytealg.MakeNoZero", "internal/bytealg.IndexByteString"], unfollowed := true, recurses := true, named := ["unicode/utf8.first", "unicode/utf8.acceptRanges"], plainKeys := false, apart := false, laid := [("unicode/utf8.acceptRanges", laid_unicode_utf8_acceptRanges), ("unicode/utf8.first", laid_unicode_utf8_first)] }
def BuildOneSaid : Prop := buildOneRow.holds Tryz.pinned (OpenSpec.ofChange buildOneSpec)

/-- ITS FALSE NEIGHBOUR: 'it returns false'. Refute it at one input. -/
def buildOneWrong : ChangeSpec := { name := "buildOne", fn := fun _ => fun
  | [d1, d2] => { results := [.lit (.bool false)], args := [d1, d2] }
  | _ => none }
def BuildOneWrongFalsely : Prop := buildOneRow.holds Tryz.pinned (OpenSpec.ofChange buildOneWrong)

/-- 'lamellalaw14.BuildShort': WHATEVER THE INPUT: true; the input reads as it did. -/
def buildShortSpec : ChangeSpec := { name := "buildShort", fn := fun _ => fun
  | [d] => { results := [.lit (.bool true)], args := [d] }
  | _ => none }
def buildShortRow : OpenClaim := { program := "ythmmmagklhiiiaagreatdoor", sum := "d0efe1fcc31d08290d2873926a57979423c43afad690edaa48630af60fda7238", func := "lamella/lamellalaw14.BuildShort", spec := "buildShort", inPlace := ["internal/abi.NoEscape", "internal/bytealg.MakeNoZero", "internal/bytealg.IndexByteString"], unfollowed := true, recurses := true, named := ["unicode/utf8.first", "unicode/utf8.acceptRanges"], plainKeys := false, apart := false, laid := [("unicode/utf8.acceptRanges", laid_unicode_utf8_acceptRanges), ("unicode/utf8.first", laid_unicode_utf8_first)] }
def BuildShortSaid : Prop := buildShortRow.holds Tryz.pinned (OpenSpec.ofChange buildShortSpec)

/-- ITS FALSE NEIGHBOUR: 'it returns false'. Refute it at one input. -/
def buildShortWrong : ChangeSpec := { name := "buildShort", fn := fun _ => fun
  | [d] => { results := [.lit (.bool false)], args := [d] }
  | _ => none }
def BuildShortWrongFalsely : Prop := buildShortRow.holds Tryz.pinned (OpenSpec.ofChange buildShortWrong)

/- THE SECOND FORM. 'bulk': how many values and letters a reading holds, each counted each time it is reached (what is shared counts as often as it is met; a slice's spare places count too). A statement '..UptoSaid' is the law's where the arguments, and the package variables that the reading takes, are together of bulk at most 1048576: NARROWER than '..Said'. Prove '..Said' where nothing that the law and all that it calls make is longer than what came in: it says more and counts as full. Else prove '..UptoSaid'. A law counts once. -/
mutual
def uptoBulk {H : Type} : DataW H → Nat
  | .lit (.string bytes) => bytes.length + 1
  | .lit _ => 1
  | .nil => 1
  | .ptr d => uptoBulk d + 1
  | .slice elems spare => uptoBulkAll elems + uptoBulkAll spare + 1
  | .agg parts => uptoBulkAll parts + 1
  | .iface _ d => uptoBulk d + 1
  | .map entries => uptoBulkEntries entries + 1
  | .held _ => 1
def uptoBulkAll {H : Type} : List (DataW H) → Nat
  | [] => 0
  | d :: r => uptoBulk d + uptoBulkAll r
def uptoBulkEntries {H : Type} : List (Lit × DataW H) → Nat
  | [] => 0
  | x :: r => uptoBulkEntry x + uptoBulkEntries r
def uptoBulkEntry {H : Type} : Lit × DataW H → Nat
  | (.string bytes, d) => bytes.length + uptoBulk d + 1
  | (_, d) => uptoBulk d + 1
 end
def uptoSmall : (H : Type) → List (DataW H) → Bool := fun _ ds => decide (uptoBulkAll ds ≤ 1048576)
def OpenSpec.upto (s : _root_.Go.ChangeSpec) : _root_.Go.OpenSpec := { _root_.Go.OpenSpec.ofChange s with cond := some uptoSmall }

/-- 'lamellalaw14.BuildImages', WHERE WHAT IT READS IS OF BULK AT MOST 1048576: true; the input reads as it did. -/
def buildImagesUptoRow : OpenClaim := { program := "ythmmmagklhiiiaagreatdoor", sum := "d0efe1fcc31d08290d2873926a57979423c43afad690edaa48630af60fda7238", func := "lamella/lamellalaw14.BuildImages", spec := "buildImages", inPlace := ["internal/abi.NoEscape", "internal/bytealg.MakeNoZero", "internal/bytealg.IndexByteString"], unfollowed := true, recurses := true, named := ["unicode/utf8.first", "unicode/utf8.acceptRanges"], plainKeys := false, apart := false, laid := [("unicode/utf8.acceptRanges", laid_unicode_utf8_acceptRanges), ("unicode/utf8.first", laid_unicode_utf8_first)], narrowed := true }
def BuildImagesUptoSaid : Prop := buildImagesUptoRow.holds Tryz.pinned (OpenSpec.upto buildImagesSpec)

/-- 'lamellalaw14.BuildOrder', WHERE WHAT IT READS IS OF BULK AT MOST 1048576: true; the input reads as it did. -/
def buildOrderUptoRow : OpenClaim := { program := "ythmmmagklhiiiaagreatdoor", sum := "d0efe1fcc31d08290d2873926a57979423c43afad690edaa48630af60fda7238", func := "lamella/lamellalaw14.BuildOrder", spec := "buildOrder", inPlace := ["internal/abi.NoEscape", "internal/bytealg.MakeNoZero", "internal/bytealg.IndexByteString"], unfollowed := true, recurses := true, named := ["unicode/utf8.first", "unicode/utf8.acceptRanges"], plainKeys := false, apart := false, laid := [("unicode/utf8.acceptRanges", laid_unicode_utf8_acceptRanges), ("unicode/utf8.first", laid_unicode_utf8_first)], narrowed := true }
def BuildOrderUptoSaid : Prop := buildOrderUptoRow.holds Tryz.pinned (OpenSpec.upto buildOrderSpec)

/-- 'lamellalaw14.BuildOnce', WHERE WHAT IT READS IS OF BULK AT MOST 1048576: true; the input reads as it did. -/
def buildOnceUptoRow : OpenClaim := { program := "ythmmmagklhiiiaagreatdoor", sum := "d0efe1fcc31d08290d2873926a57979423c43afad690edaa48630af60fda7238", func := "lamella/lamellalaw14.BuildOnce", spec := "buildOnce", inPlace := ["internal/abi.NoEscape", "internal/bytealg.MakeNoZero", "internal/bytealg.IndexByteString"], unfollowed := true, recurses := true, named := ["unicode/utf8.first", "unicode/utf8.acceptRanges"], plainKeys := false, apart := false, laid := [("unicode/utf8.acceptRanges", laid_unicode_utf8_acceptRanges), ("unicode/utf8.first", laid_unicode_utf8_first)], narrowed := true }
def BuildOnceUptoSaid : Prop := buildOnceUptoRow.holds Tryz.pinned (OpenSpec.upto buildOnceSpec)

/-- 'lamellalaw14.BuildOne', WHERE WHAT IT READS IS OF BULK AT MOST 1048576: true; the input reads as it did. -/
def buildOneUptoRow : OpenClaim := { program := "ythmmmagklhiiiaagreatdoor", sum := "d0efe1fcc31d08290d2873926a57979423c43afad690edaa48630af60fda7238", func := "lamella/lamellalaw14.BuildOne", spec := "buildOne", inPlace := ["internal/abi.NoEscape", "internal/bytealg.MakeNoZero", "internal/bytealg.IndexByteString"], unfollowed := true, recurses := true, named := ["unicode/utf8.first", "unicode/utf8.acceptRanges"], plainKeys := false, apart := false, laid := [("unicode/utf8.acceptRanges", laid_unicode_utf8_acceptRanges), ("unicode/utf8.first", laid_unicode_utf8_first)], narrowed := true }
def BuildOneUptoSaid : Prop := buildOneUptoRow.holds Tryz.pinned (OpenSpec.upto buildOneSpec)

/-- 'lamellalaw14.BuildShort', WHERE WHAT IT READS IS OF BULK AT MOST 1048576: true; the input reads as it did. -/
def buildShortUptoRow : OpenClaim := { program := "ythmmmagklhiiiaagreatdoor", sum := "d0efe1fcc31d08290d2873926a57979423c43afad690edaa48630af60fda7238", func := "lamella/lamellalaw14.BuildShort", spec := "buildShort", inPlace := ["internal/abi.NoEscape", "internal/bytealg.MakeNoZero", "internal/bytealg.IndexByteString"], unfollowed := true, recurses := true, named := ["unicode/utf8.first", "unicode/utf8.acceptRanges"], plainKeys := false, apart := false, laid := [("unicode/utf8.acceptRanges", laid_unicode_utf8_acceptRanges), ("unicode/utf8.first", laid_unicode_utf8_first)], narrowed := true }
def BuildShortUptoSaid : Prop := buildShortUptoRow.holds Tryz.pinned (OpenSpec.upto buildShortSpec)

end Rows
end Go.Proofs.YthmmmagklhiiiaaGreatDoor
