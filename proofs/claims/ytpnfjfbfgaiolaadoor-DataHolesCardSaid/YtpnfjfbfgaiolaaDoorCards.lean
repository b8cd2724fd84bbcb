/-
  DERIVED. GIVEN WITH THE SEED: THE CARDS: each row of YtpnfjfbfgaiolaaDoorRows.lean that lists a variable, with what it lists TIED to the program's text (the seventh form; the later family's looks); each row that meets fmt, with fmt's text TOLD by the authors' own Lean function (tested against real Go, not proved from fmt's source: count such statements apart). THE CARD IS WHAT COUNTS. Prove the row's statement (the work); the ties are given (YtpnfjfbfgaiolaaDoorTie.lean); close each card by the builder's one call (the guide's Derived/Test/ToyasCard.lean, 'card_holds'). Laid BY PROGRAM, IN A SANDBOX (cutbox-door.mjs). By AI agents, Wed Nov 11 2026. No macro, syntax, notation, axiom, sorry.
-/
import Derived.Test.YtpnfjfbfgaiolaaDoorRows
import GoSem.ClaimSeven
namespace Go.Proofs.YtpnfjfbfgaiolaaDoor
namespace Rows

/-- THE TIED CARD OF 'lamellalaw12.DataOnce'. -/
def dataOnceCard : Claim7 := { stood := { row := dataOnceRow, standIns := [], harness := (true, "c7b781896a8ce9e51ae0d54f5ae8b1a1d5d88ac727264991c720e7de6a3f340e"), looks := false }, kinds := [], alts := [], laidByText := true, laidKinds := [.data, .pinned], laidTests := true, laidLooks := .later }
def DataOnceCardSaid : Prop := Claim7.holds Tryd.pinned (.plain (OpenSpec.ofChange dataOnceSpec)) dataOnceCard

/-- THE TIED CARD OF 'lamellalaw12.DataAdds'. -/
def dataAddsCard : Claim7 := { stood := { row := dataAddsRow, standIns := [], harness := (true, "c7b781896a8ce9e51ae0d54f5ae8b1a1d5d88ac727264991c720e7de6a3f340e"), looks := false }, kinds := [], alts := [], laidByText := true, laidKinds := [.data, .pinned], laidTests := true, laidLooks := .later }
def DataAddsCardSaid : Prop := Claim7.holds Tryd.pinned (.plain (OpenSpec.ofChange dataAddsSpec)) dataAddsCard

/-- THE TIED CARD OF 'lamellalaw12.DataHoles'. -/
def dataHolesCard : Claim7 := { stood := { row := dataHolesRow, standIns := [], harness := (true, "c7b781896a8ce9e51ae0d54f5ae8b1a1d5d88ac727264991c720e7de6a3f340e"), looks := false }, kinds := [], alts := [], laidByText := true, laidKinds := [.data, .pinned], laidTests := true, laidLooks := .later }
def DataHolesCardSaid : Prop := Claim7.holds Tryd.pinned (.plain (OpenSpec.ofChange dataHolesSpec)) dataHolesCard

/-- THE TIED CARD OF 'lamellalaw12.DataReads'. -/
def dataReadsCard : Claim7 := { stood := { row := dataReadsRow, standIns := [], harness := (true, "c7b781896a8ce9e51ae0d54f5ae8b1a1d5d88ac727264991c720e7de6a3f340e"), looks := false }, kinds := [], alts := [], laidByText := true, laidKinds := [.data, .pinned], laidTests := true, laidLooks := .later }
def DataReadsCardSaid : Prop := Claim7.holds Tryd.pinned (.plain (OpenSpec.ofChange dataReadsSpec)) dataReadsCard

/-- THE TIED CARD OF 'lamellalaw12.DataBack'. -/
def dataBackCard : Claim7 := { stood := { row := dataBackRow, standIns := [], harness := (true, "c7b781896a8ce9e51ae0d54f5ae8b1a1d5d88ac727264991c720e7de6a3f340e"), looks := false }, kinds := [], alts := [], laidByText := true, laidKinds := [.data, .pinned], laidTests := true, laidLooks := .later }
def DataBackCardSaid : Prop := Claim7.holds Tryd.pinned (.plain (OpenSpec.ofChange dataBackSpec)) dataBackCard

/-- THE SECOND FORM's CARD OF 'lamellalaw12.DataOnce'. -/
def dataOnceUptoCard : Claim7 := { stood := { row := dataOnceUptoRow, standIns := [], harness := (true, "c7b781896a8ce9e51ae0d54f5ae8b1a1d5d88ac727264991c720e7de6a3f340e"), looks := false }, kinds := [], alts := [], laidByText := true, laidKinds := [.data, .pinned], laidTests := true, laidLooks := .later }
def DataOnceUptoCardSaid : Prop := Claim7.holds Tryd.pinned (.plain (OpenSpec.upto dataOnceSpec)) dataOnceUptoCard

/-- THE SECOND FORM's CARD OF 'lamellalaw12.DataAdds'. -/
def dataAddsUptoCard : Claim7 := { stood := { row := dataAddsUptoRow, standIns := [], harness := (true, "c7b781896a8ce9e51ae0d54f5ae8b1a1d5d88ac727264991c720e7de6a3f340e"), looks := false }, kinds := [], alts := [], laidByText := true, laidKinds := [.data, .pinned], laidTests := true, laidLooks := .later }
def DataAddsUptoCardSaid : Prop := Claim7.holds Tryd.pinned (.plain (OpenSpec.upto dataAddsSpec)) dataAddsUptoCard

/-- THE SECOND FORM's CARD OF 'lamellalaw12.DataHoles'. -/
def dataHolesUptoCard : Claim7 := { stood := { row := dataHolesUptoRow, standIns := [], harness := (true, "c7b781896a8ce9e51ae0d54f5ae8b1a1d5d88ac727264991c720e7de6a3f340e"), looks := false }, kinds := [], alts := [], laidByText := true, laidKinds := [.data, .pinned], laidTests := true, laidLooks := .later }
def DataHolesUptoCardSaid : Prop := Claim7.holds Tryd.pinned (.plain (OpenSpec.upto dataHolesSpec)) dataHolesUptoCard

/-- THE SECOND FORM's CARD OF 'lamellalaw12.DataReads'. -/
def dataReadsUptoCard : Claim7 := { stood := { row := dataReadsUptoRow, standIns := [], harness := (true, "c7b781896a8ce9e51ae0d54f5ae8b1a1d5d88ac727264991c720e7de6a3f340e"), looks := false }, kinds := [], alts := [], laidByText := true, laidKinds := [.data, .pinned], laidTests := true, laidLooks := .later }
def DataReadsUptoCardSaid : Prop := Claim7.holds Tryd.pinned (.plain (OpenSpec.upto dataReadsSpec)) dataReadsUptoCard

/-- THE SECOND FORM's CARD OF 'lamellalaw12.DataBack'. -/
def dataBackUptoCard : Claim7 := { stood := { row := dataBackUptoRow, standIns := [], harness := (true, "c7b781896a8ce9e51ae0d54f5ae8b1a1d5d88ac727264991c720e7de6a3f340e"), looks := false }, kinds := [], alts := [], laidByText := true, laidKinds := [.data, .pinned], laidTests := true, laidLooks := .later }
def DataBackUptoCardSaid : Prop := Claim7.holds Tryd.pinned (.plain (OpenSpec.upto dataBackSpec)) dataBackUptoCard
end Rows
end Go.Proofs.YtpnfjfbfgaiolaaDoor
