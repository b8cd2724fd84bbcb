/-
  DERIVED. GIVEN WITH THE SEED: THE CARDS: each row of YthmmmagklhiiiaaGreatDoorRows.lean that lists a variable, with what it lists TIED to the program's text (the seventh form; the later family's looks); each row that meets fmt, with fmt's text TOLD by the authors' own Lean function (tested against real Go, not proved from fmt's source: count such statements apart). THE CARD IS WHAT COUNTS. Prove the row's statement (the work); the ties are given (YthmmmagklhiiiaaGreatDoorTie.lean); close each card by the builder's one call (the guide's Derived/Test/ToyasCard.lean, 'card_holds'). Laid BY PROGRAM, IN A SANDBOX (cutbox-door.mjs). By AI agents, Wed Nov 11 2026. No macro, syntax, notation, axiom, sorry.
-/
import Derived.Test.YthmmmagklhiiiaaGreatDoorRows
import GoSem.ClaimSeven
namespace Go.Proofs.YthmmmagklhiiiaaGreatDoor
namespace Rows

/-- THE TIED CARD OF 'lamellalaw14.BuildImages'. -/
def buildImagesCard : Claim7 := { stood := { row := buildImagesRow, standIns := [], harness := (true, "9df5dd50a46127b70de4b420279acd90ccb31b74530bd9e1b546913cd3d42b4c"), looks := false }, kinds := [], alts := [], laidByText := true, laidKinds := [.data, .pinned], laidTests := true, laidLooks := .later }
def BuildImagesCardSaid : Prop := Claim7.holds Tryz.pinned (.plain (OpenSpec.ofChange buildImagesSpec)) buildImagesCard

/-- THE TIED CARD OF 'lamellalaw14.BuildOrder'. -/
def buildOrderCard : Claim7 := { stood := { row := buildOrderRow, standIns := [], harness := (true, "9df5dd50a46127b70de4b420279acd90ccb31b74530bd9e1b546913cd3d42b4c"), looks := false }, kinds := [], alts := [], laidByText := true, laidKinds := [.data, .pinned], laidTests := true, laidLooks := .later }
def BuildOrderCardSaid : Prop := Claim7.holds Tryz.pinned (.plain (OpenSpec.ofChange buildOrderSpec)) buildOrderCard

/-- THE TIED CARD OF 'lamellalaw14.BuildOnce'. -/
def buildOnceCard : Claim7 := { stood := { row := buildOnceRow, standIns := [], harness := (true, "9df5dd50a46127b70de4b420279acd90ccb31b74530bd9e1b546913cd3d42b4c"), looks := false }, kinds := [], alts := [], laidByText := true, laidKinds := [.data, .pinned], laidTests := true, laidLooks := .later }
def BuildOnceCardSaid : Prop := Claim7.holds Tryz.pinned (.plain (OpenSpec.ofChange buildOnceSpec)) buildOnceCard

/-- THE TIED CARD OF 'lamellalaw14.BuildOne'. -/
def buildOneCard : Claim7 := { stood := { row := buildOneRow, standIns := [], harness := (true, "9df5dd50a46127b70de4b420279acd90ccb31b74530bd9e1b546913cd3d42b4c"), looks := false }, kinds := [], alts := [], laidByText := true, laidKinds := [.data, .pinned], laidTests := true, laidLooks := .later }
def BuildOneCardSaid : Prop := Claim7.holds Tryz.pinned (.plain (OpenSpec.ofChange buildOneSpec)) buildOneCard

/-- THE TIED CARD OF 'lamellalaw14.BuildShort'. -/
def buildShortCard : Claim7 := { stood := { row := buildShortRow, standIns := [], harness := (true, "9df5dd50a46127b70de4b420279acd90ccb31b74530bd9e1b546913cd3d42b4c"), looks := false }, kinds := [], alts := [], laidByText := true, laidKinds := [.data, .pinned], laidTests := true, laidLooks := .later }
def BuildShortCardSaid : Prop := Claim7.holds Tryz.pinned (.plain (OpenSpec.ofChange buildShortSpec)) buildShortCard

/-- THE SECOND FORM's CARD OF 'lamellalaw14.BuildImages'. -/
def buildImagesUptoCard : Claim7 := { stood := { row := buildImagesUptoRow, standIns := [], harness := (true, "9df5dd50a46127b70de4b420279acd90ccb31b74530bd9e1b546913cd3d42b4c"), looks := false }, kinds := [], alts := [], laidByText := true, laidKinds := [.data, .pinned], laidTests := true, laidLooks := .later }
def BuildImagesUptoCardSaid : Prop := Claim7.holds Tryz.pinned (.plain (OpenSpec.upto buildImagesSpec)) buildImagesUptoCard

/-- THE SECOND FORM's CARD OF 'lamellalaw14.BuildOrder'. -/
def buildOrderUptoCard : Claim7 := { stood := { row := buildOrderUptoRow, standIns := [], harness := (true, "9df5dd50a46127b70de4b420279acd90ccb31b74530bd9e1b546913cd3d42b4c"), looks := false }, kinds := [], alts := [], laidByText := true, laidKinds := [.data, .pinned], laidTests := true, laidLooks := .later }
def BuildOrderUptoCardSaid : Prop := Claim7.holds Tryz.pinned (.plain (OpenSpec.upto buildOrderSpec)) buildOrderUptoCard

/-- THE SECOND FORM's CARD OF 'lamellalaw14.BuildOnce'. -/
def buildOnceUptoCard : Claim7 := { stood := { row := buildOnceUptoRow, standIns := [], harness := (true, "9df5dd50a46127b70de4b420279acd90ccb31b74530bd9e1b546913cd3d42b4c"), looks := false }, kinds := [], alts := [], laidByText := true, laidKinds := [.data, .pinned], laidTests := true, laidLooks := .later }
def BuildOnceUptoCardSaid : Prop := Claim7.holds Tryz.pinned (.plain (OpenSpec.upto buildOnceSpec)) buildOnceUptoCard

/-- THE SECOND FORM's CARD OF 'lamellalaw14.BuildOne'. -/
def buildOneUptoCard : Claim7 := { stood := { row := buildOneUptoRow, standIns := [], harness := (true, "9df5dd50a46127b70de4b420279acd90ccb31b74530bd9e1b546913cd3d42b4c"), looks := false }, kinds := [], alts := [], laidByText := true, laidKinds := [.data, .pinned], laidTests := true, laidLooks := .later }
def BuildOneUptoCardSaid : Prop := Claim7.holds Tryz.pinned (.plain (OpenSpec.upto buildOneSpec)) buildOneUptoCard

/-- THE SECOND FORM's CARD OF 'lamellalaw14.BuildShort'. -/
def buildShortUptoCard : Claim7 := { stood := { row := buildShortUptoRow, standIns := [], harness := (true, "9df5dd50a46127b70de4b420279acd90ccb31b74530bd9e1b546913cd3d42b4c"), looks := false }, kinds := [], alts := [], laidByText := true, laidKinds := [.data, .pinned], laidTests := true, laidLooks := .later }
def BuildShortUptoCardSaid : Prop := Claim7.holds Tryz.pinned (.plain (OpenSpec.upto buildShortSpec)) buildShortUptoCard
end Rows
end Go.Proofs.YthmmmagklhiiiaaGreatDoor
