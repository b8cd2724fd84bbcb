/-
  NARROWER THAN 'FOR EVERY INPUT', by the rows' own cells (each row's printed sentence says how): DataOnce: laid · DataAdds: laid · DataHoles: laid · DataReads: laid · DataBack: laid.
  DERIVED. THE GIVEN ROWS OF THIS SEAT. 5 by the template 'for every input the law returns true; each argument reads behind the call as it read before'; 0 by the template 'total and deterministic' (their statements: YtpnfjfbfgaiolaaDoorTotals.lean).
  GIVEN WITH THE SEED: the statements are not yours to turn. If you find one false, say at which input.
  Laid BY PROGRAM, IN A SANDBOX (cutbox-rows.mjs): the forced cells as the released guide's own fill.sh prints them over the translation e11e7bc5daa5725e… (all of the seat's roots in one cut). By AI agents, Wed Nov 11 2026. No macro, syntax, notation, axiom, sorry.
-/
import Derived.Test.YtpnfjfbfgaiolaaDoorChecked
import GoSem.PinnedTables
import GoSem.Claim
import GoSem.ClaimJoined
import GoSem.ClaimMapViews
import Derived.JoinedTies
import Derived.KernelRfl
namespace Go.Proofs.YtpnfjfbfgaiolaaDoor
/- THE CELL 'sum', in the pinned program and in every row, IS THE sha256 OF THE DUMP (.gsa) THAT YtpnfjfbfgaiolaaDoorProg.lean LOADS. Nothing in Lean hashes anything: it is a label: what it is worth is what the hold of that sum in a sandbox is worth. -/
noncomputable def Tryd.pinned : Pinned := { name := "ytpnfjfbfgaiolaadoor", sum := "e11e7bc5daa5725e7420f15b0a1018a40787f1557103bdc8025a57998cdb370b", checked := Tryd.checked }
namespace Rows
def none {H : Type} : Left H := { results := [], args := [] }

/- WHAT THE LISTED PACKAGE-LEVEL VARIABLES READ AS WHEN THE CALL BEGINS. Each datum BY PROGRAM (the guide's laid-datum.mjs) off the statement by which the dump's own 'gosem.cut.vars' lays the variable. In a bare row this is a premise. The card (YtpnfjfbfgaiolaaDoorCards.lean) ties it to the program's text. -/
def laid_unicode_utf8_acceptRanges {H : Type} : DataW H := .agg [.agg [.lit (.int .u8 128), .lit (.int .u8 191)], .agg [.lit (.int .u8 160), .lit (.int .u8 191)], .agg [.lit (.int .u8 128), .lit (.int .u8 159)], .agg [.lit (.int .u8 144), .lit (.int .u8 191)], .agg [.lit (.int .u8 128), .lit (.int .u8 143)], .agg [.lit (.int .u8 0), .lit (.int .u8 0)], .agg [.lit (.int .u8 0), .lit (.int .u8 0)], .agg [.lit (.int .u8 0), .lit (.int .u8 0)], .agg [.lit (.int .u8 0), .lit (.int .u8 0)], .agg [.lit (.int .u8 0), .lit (.int .u8 0)], .agg [.lit (.int .u8 0), .lit (.int .u8 0)], .agg [.lit (.int .u8 0), .lit (.int .u8 0)], .agg [.lit (.int .u8 0), .lit (.int .u8 0)], .agg [.lit (.int .u8 0), .lit (.int .u8 0)], .agg [.lit (.int .u8 0), .lit (.int .u8 0)], .agg [.lit (.int .u8 0), .lit (.int .u8 0)]]
/-- One of Go's own tables, pinned by name: the form's constant. -/
def laid_unicode_utf8_first : DataW Unit := Go.Pinned.utf8First

/-- 'lamellalaw12.DataOnce': WHATEVER THE INPUT: true; the input reads as it did. -/
def dataOnceSpec : ChangeSpec := { name := "dataOnce", fn := fun _ => fun
  | [d1, d2] => { results := [.lit (.bool true)], args := [d1, d2] }
  | _ => none }
def dataOnceRow : OpenClaim := { program := "ytpnfjfbfgaiolaadoor", sum := "e11e7bc5daa5725e7420f15b0a1018a40787f1557103bdc8025a57998cdb370b", func := "lamella/lamellalaw12.DataOnce", spec := "dataOnce", unfollowed := true, recurses := true, named := ["unicode/utf8.first", "unicode/utf8.acceptRanges"], plainKeys := false, apart := false, laid := [("unicode/utf8.acceptRanges", laid_unicode_utf8_acceptRanges), ("unicode/utf8.first", laid_unicode_utf8_first)] }
def DataOnceSaid : Prop := dataOnceRow.holds Tryd.pinned (OpenSpec.ofChange dataOnceSpec)

/-- ITS FALSE NEIGHBOUR: 'it returns false'. Refute it at one input. -/
def dataOnceWrong : ChangeSpec := { name := "dataOnce", fn := fun _ => fun
  | [d1, d2] => { results := [.lit (.bool false)], args := [d1, d2] }
  | _ => none }
def DataOnceWrongFalsely : Prop := dataOnceRow.holds Tryd.pinned (OpenSpec.ofChange dataOnceWrong)

/-- 'lamellalaw12.DataAdds': WHATEVER THE INPUT: true; the input reads as it did. -/
def dataAddsSpec : ChangeSpec := { name := "dataAdds", fn := fun _ => fun
  | [d1, d2, d3] => { results := [.lit (.bool true)], args := [d1, d2, d3] }
  | _ => none }
def dataAddsRow : OpenClaim := { program := "ytpnfjfbfgaiolaadoor", sum := "e11e7bc5daa5725e7420f15b0a1018a40787f1557103bdc8025a57998cdb370b", func := "lamella/lamellalaw12.DataAdds", spec := "dataAdds", unfollowed := true, recurses := true, named := ["unicode/utf8.first", "unicode/utf8.acceptRanges"], plainKeys := false, apart := false, laid := [("unicode/utf8.acceptRanges", laid_unicode_utf8_acceptRanges), ("unicode/utf8.first", laid_unicode_utf8_first)] }
def DataAddsSaid : Prop := dataAddsRow.holds Tryd.pinned (OpenSpec.ofChange dataAddsSpec)

/-- ITS FALSE NEIGHBOUR: 'it returns false'. Refute it at one input. -/
def dataAddsWrong : ChangeSpec := { name := "dataAdds", fn := fun _ => fun
  | [d1, d2, d3] => { results := [.lit (.bool false)], args := [d1, d2, d3] }
  | _ => none }
def DataAddsWrongFalsely : Prop := dataAddsRow.holds Tryd.pinned (OpenSpec.ofChange dataAddsWrong)

/-- 'lamellalaw12.DataHoles': WHATEVER THE INPUT: true; the input reads as it did. -/
def dataHolesSpec : ChangeSpec := { name := "dataHoles", fn := fun _ => fun
  | [d1, d2, d3] => { results := [.lit (.bool true)], args := [d1, d2, d3] }
  | _ => none }
def dataHolesRow : OpenClaim := { program := "ytpnfjfbfgaiolaadoor", sum := "e11e7bc5daa5725e7420f15b0a1018a40787f1557103bdc8025a57998cdb370b", func := "lamella/lamellalaw12.DataHoles", spec := "dataHoles", unfollowed := true, recurses := true, named := ["unicode/utf8.first", "unicode/utf8.acceptRanges"], plainKeys := false, apart := false, laid := [("unicode/utf8.acceptRanges", laid_unicode_utf8_acceptRanges), ("unicode/utf8.first", laid_unicode_utf8_first)] }
def DataHolesSaid : Prop := dataHolesRow.holds Tryd.pinned (OpenSpec.ofChange dataHolesSpec)

/-- ITS FALSE NEIGHBOUR: 'it returns false'. Refute it at one input. -/
def dataHolesWrong : ChangeSpec := { name := "dataHoles", fn := fun _ => fun
  | [d1, d2, d3] => { results := [.lit (.bool false)], args := [d1, d2, d3] }
  | _ => none }
def DataHolesWrongFalsely : Prop := dataHolesRow.holds Tryd.pinned (OpenSpec.ofChange dataHolesWrong)

/-- 'lamellalaw12.DataReads': WHATEVER THE INPUT: true; the input reads as it did. -/
def dataReadsSpec : ChangeSpec := { name := "dataReads", fn := fun _ => fun
  | [d1, d2] => { results := [.lit (.bool true)], args := [d1, d2] }
  | _ => none }
def dataReadsRow : OpenClaim := { program := "ytpnfjfbfgaiolaadoor", sum := "e11e7bc5daa5725e7420f15b0a1018a40787f1557103bdc8025a57998cdb370b", func := "lamella/lamellalaw12.DataReads", spec := "dataReads", unfollowed := true, recurses := true, named := ["unicode/utf8.first", "unicode/utf8.acceptRanges"], plainKeys := false, apart := false, laid := [("unicode/utf8.acceptRanges", laid_unicode_utf8_acceptRanges), ("unicode/utf8.first", laid_unicode_utf8_first)] }
def DataReadsSaid : Prop := dataReadsRow.holds Tryd.pinned (OpenSpec.ofChange dataReadsSpec)

/-- ITS FALSE NEIGHBOUR: 'it returns false'. Refute it at one input. -/
def dataReadsWrong : ChangeSpec := { name := "dataReads", fn := fun _ => fun
  | [d1, d2] => { results := [.lit (.bool false)], args := [d1, d2] }
  | _ => none }
def DataReadsWrongFalsely : Prop := dataReadsRow.holds Tryd.pinned (OpenSpec.ofChange dataReadsWrong)

/-- 'lamellalaw12.DataBack': WHATEVER THE INPUT: true; the input reads as it did. -/
def dataBackSpec : ChangeSpec := { name := "dataBack", fn := fun _ => fun
  | [d1, d2, d3] => { results := [.lit (.bool true)], args := [d1, d2, d3] }
  | _ => none }
def dataBackRow : OpenClaim := { program := "ytpnfjfbfgaiolaadoor", sum := "e11e7bc5daa5725e7420f15b0a1018a40787f1557103bdc8025a57998cdb370b", func := "lamella/lamellalaw12.DataBack", spec := "dataBack", unfollowed := true, recurses := true, named := ["unicode/utf8.first", "unicode/utf8.acceptRanges"], plainKeys := false, apart := false, laid := [("unicode/utf8.acceptRanges", laid_unicode_utf8_acceptRanges), ("unicode/utf8.first", laid_unicode_utf8_first)] }
def DataBackSaid : Prop := dataBackRow.holds Tryd.pinned (OpenSpec.ofChange dataBackSpec)

/-- ITS FALSE NEIGHBOUR: 'it returns false'. Refute it at one input. -/
def dataBackWrong : ChangeSpec := { name := "dataBack", fn := fun _ => fun
  | [d1, d2, d3] => { results := [.lit (.bool false)], args := [d1, d2, d3] }
  | _ => none }
def DataBackWrongFalsely : Prop := dataBackRow.holds Tryd.pinned (OpenSpec.ofChange dataBackWrong)

/- THE SECOND FORM. 'bulk': how many values and letters a reading holds, each counted each time it is reached (what is shared counts as often as it is met; a slice's spare places count too). A statement '..UptoSaid' is the law's where the arguments, and the package variables that the reading takes, are together of bulk at most 1048576: NARROWER than '..Said'. Prove '..Said' where nothing that the law and all that it calls make is longer than what came in: it says more and counts as full. Else prove '..UptoSaid'. A law counts once. -/
mutual
def uptoBulk {H : Type} : DataW H → Nat
  | .lit (.string bytes) => bytes.length + 1
  | .lit _ => 1
  | .nil => 1
  | .ptr d => uptoBulk d + 1
  | .slice elems spare => uptoBulkAll elems + uptoBulkAll spare + 1
  | .agg parts => uptoBulkAll parts + 1
  | .iface _ d => uptoBulk d + 1
  | .map entries => uptoBulkEntries entries + 1
  | .held _ => 1
def uptoBulkAll {H : Type} : List (DataW H) → Nat
  | [] => 0
  | d :: r => uptoBulk d + uptoBulkAll r
def uptoBulkEntries {H : Type} : List (Lit × DataW H) → Nat
  | [] => 0
  | x :: r => uptoBulkEntry x + uptoBulkEntries r
def uptoBulkEntry {H : Type} : Lit × DataW H → Nat
  | (.string bytes, d) => bytes.length + uptoBulk d + 1
  | (_, d) => uptoBulk d + 1
 end
def uptoSmall : (H : Type) → List (DataW H) → Bool := fun _ ds => decide (uptoBulkAll ds ≤ 1048576)
def OpenSpec.upto (s : _root_.Go.ChangeSpec) : _root_.Go.OpenSpec := { _root_.Go.OpenSpec.ofChange s with cond := some uptoSmall }

/-- 'lamellalaw12.DataOnce', WHERE WHAT IT READS IS OF BULK AT MOST 1048576: true; the input reads as it did. -/
def dataOnceUptoRow : OpenClaim := { program := "ytpnfjfbfgaiolaadoor", sum := "e11e7bc5daa5725e7420f15b0a1018a40787f1557103bdc8025a57998cdb370b", func := "lamella/lamellalaw12.DataOnce", spec := "dataOnce", unfollowed := true, recurses := true, named := ["unicode/utf8.first", "unicode/utf8.acceptRanges"], plainKeys := false, apart := false, laid := [("unicode/utf8.acceptRanges", laid_unicode_utf8_acceptRanges), ("unicode/utf8.first", laid_unicode_utf8_first)], narrowed := true }
def DataOnceUptoSaid : Prop := dataOnceUptoRow.holds Tryd.pinned (OpenSpec.upto dataOnceSpec)

/-- 'lamellalaw12.DataAdds', WHERE WHAT IT READS IS OF BULK AT MOST 1048576: true; the input reads as it did. -/
def dataAddsUptoRow : OpenClaim := { program := "ytpnfjfbfgaiolaadoor", sum := "e11e7bc5daa5725e7420f15b0a1018a40787f1557103bdc8025a57998cdb370b", func := "lamella/lamellalaw12.DataAdds", spec := "dataAdds", unfollowed := true, recurses := true, named := ["unicode/utf8.first", "unicode/utf8.acceptRanges"], plainKeys := false, apart := false, laid := [("unicode/utf8.acceptRanges", laid_unicode_utf8_acceptRanges), ("unicode/utf8.first", laid_unicode_utf8_first)], narrowed := true }
def DataAddsUptoSaid : Prop := dataAddsUptoRow.holds Tryd.pinned (OpenSpec.upto dataAddsSpec)

/-- 'lamellalaw12.DataHoles', WHERE WHAT IT READS IS OF BULK AT MOST 1048576: true; the input reads as it did. -/
def dataHolesUptoRow : OpenClaim := { program := "ytpnfjfbfgaiolaadoor", sum := "e11e7bc5daa5725e7420f15b0a1018a40787f1557103bdc8025a57998cdb370b", func := "lamella/lamellalaw12.DataHoles", spec := "dataHoles", unfollowed := true, recurses := true, named := ["unicode/utf8.first", "unicode/utf8.acceptRanges"], plainKeys := false, apart := false, laid := [("unicode/utf8.acceptRanges", laid_unicode_utf8_acceptRanges), ("unicode/utf8.first", laid_unicode_utf8_first)], narrowed := true }
def DataHolesUptoSaid : Prop := dataHolesUptoRow.holds Tryd.pinned (OpenSpec.upto dataHolesSpec)

/-- 'lamellalaw12.DataReads', WHERE WHAT IT READS IS OF BULK AT MOST 1048576: true; the input reads as it did. -/
def dataReadsUptoRow : OpenClaim := { program := "ytpnfjfbfgaiolaadoor", sum := "e11e7bc5daa5725e7420f15b0a1018a40787f1557103bdc8025a57998cdb370b", func := "lamella/lamellalaw12.DataReads", spec := "dataReads", unfollowed := true, recurses := true, named := ["unicode/utf8.first", "unicode/utf8.acceptRanges"], plainKeys := false, apart := false, laid := [("unicode/utf8.acceptRanges", laid_unicode_utf8_acceptRanges), ("unicode/utf8.first", laid_unicode_utf8_first)], narrowed := true }
def DataReadsUptoSaid : Prop := dataReadsUptoRow.holds Tryd.pinned (OpenSpec.upto dataReadsSpec)

/-- 'lamellalaw12.DataBack', WHERE WHAT IT READS IS OF BULK AT MOST 1048576: true; the input reads as it did. -/
def dataBackUptoRow : OpenClaim := { program := "ytpnfjfbfgaiolaadoor", sum := "e11e7bc5daa5725e7420f15b0a1018a40787f1557103bdc8025a57998cdb370b", func := "lamella/lamellalaw12.DataBack", spec := "dataBack", unfollowed := true, recurses := true, named := ["unicode/utf8.first", "unicode/utf8.acceptRanges"], plainKeys := false, apart := false, laid := [("unicode/utf8.acceptRanges", laid_unicode_utf8_acceptRanges), ("unicode/utf8.first", laid_unicode_utf8_first)], narrowed := true }
def DataBackUptoSaid : Prop := dataBackUptoRow.holds Tryd.pinned (OpenSpec.upto dataBackSpec)

end Rows
end Go.Proofs.YtpnfjfbfgaiolaaDoor
