/-
  DERIVED. GIVEN WITH THE SEED: THE CARDS: each row of YtgbmhohlapmgbaaGreatDoorRows.lean that lists a variable, with what it lists TIED to the program's text (the seventh form; the later family's looks); each row that meets fmt, with fmt's text TOLD by the authors' own Lean function (tested against real Go, not proved from fmt's source: count such statements apart). THE CARD IS WHAT COUNTS. Prove the row's statement (the work); the ties are given (YtgbmhohlapmgbaaGreatDoorTie.lean); close each card by the builder's one call (the guide's Derived/Test/ToyasCard.lean, 'card_holds'). Laid BY PROGRAM, IN A SANDBOX (cutbox-door.mjs). By AI agents, Wed Nov 11 2026. No macro, syntax, notation, axiom, sorry.
-/
import Derived.Test.YtgbmhohlapmgbaaGreatDoorRows
import GoSem.ClaimSeven
namespace Go.Proofs.YtgbmhohlapmgbaaGreatDoor
namespace Rows

/-- THE TIED CARD OF 'bitextlaw35.ExportWrites'. -/
def exportWritesCard : Claim7 := { stood := { row := exportWritesRow, standIns := [], harness := (true, "6419a547cb5836e536c90ec6741d6b42776b1268389dc43d936a11af80ff430a"), looks := true }, kinds := [], alts := [], laidByText := true, laidKinds := [.data, .data, .data, .data, .pinned], laidTests := true, laidLooks := .later }
def ExportWritesCardSaid : Prop := Claim7.holds Tryz.pinned (.plain (OpenSpec.ofChange exportWritesSpec)) exportWritesCard

/-- THE TIED CARD OF 'bitextlaw35.ExportPreviews'. -/
def exportPreviewsCard : Claim7 := { stood := { row := exportPreviewsRow, standIns := [], harness := (true, "6419a547cb5836e536c90ec6741d6b42776b1268389dc43d936a11af80ff430a"), looks := true }, kinds := [], alts := [], laidByText := true, laidKinds := [.data, .data, .data, .data, .pinned], laidTests := true, laidLooks := .later }
def ExportPreviewsCardSaid : Prop := Claim7.holds Tryz.pinned (.plain (OpenSpec.ofChange exportPreviewsSpec)) exportPreviewsCard

/-- THE TIED CARD OF 'bitextlaw35.ExportSpans'. -/
def exportSpansCard : Claim7 := { stood := { row := exportSpansRow, standIns := [], harness := (true, "6419a547cb5836e536c90ec6741d6b42776b1268389dc43d936a11af80ff430a"), looks := true }, kinds := [], alts := [], laidByText := true, laidKinds := [.data, .data, .data, .data, .pinned], laidTests := true, laidLooks := .later }
def ExportSpansCardSaid : Prop := Claim7.holds Tryz.pinned (.plain (OpenSpec.ofChange exportSpansSpec)) exportSpansCard

/-- THE TIED CARD OF 'bitextlaw35.ExportOutside'. -/
def exportOutsideCard : Claim7 := { stood := { row := exportOutsideRow, standIns := [], harness := (true, "6419a547cb5836e536c90ec6741d6b42776b1268389dc43d936a11af80ff430a"), looks := true }, kinds := [], alts := [], laidByText := true, laidKinds := [.data, .data, .data, .data, .pinned], laidTests := true, laidLooks := .later }
def ExportOutsideCardSaid : Prop := Claim7.holds Tryz.pinned (.plain (OpenSpec.ofChange exportOutsideSpec)) exportOutsideCard

/-- THE TIED CARD OF 'bitextlaw35.ExportContents'. -/
def exportContentsCard : Claim7 := { stood := { row := exportContentsRow, standIns := [], harness := (true, "6419a547cb5836e536c90ec6741d6b42776b1268389dc43d936a11af80ff430a"), looks := true }, kinds := [], alts := [], laidByText := true, laidKinds := [.data, .data, .data, .data, .pinned], laidTests := true, laidLooks := .later }
def ExportContentsCardSaid : Prop := Claim7.holds Tryz.pinned (.plain (OpenSpec.ofChange exportContentsSpec)) exportContentsCard

/-- THE TIED CARD OF 'bitextlaw35.ExportLeft'. -/
def exportLeftCard : Claim7 := { stood := { row := exportLeftRow, standIns := [], harness := (true, "6419a547cb5836e536c90ec6741d6b42776b1268389dc43d936a11af80ff430a"), looks := true }, kinds := [], alts := [], laidByText := true, laidKinds := [.data, .data, .data, .data, .pinned], laidTests := true, laidLooks := .later }
def ExportLeftCardSaid : Prop := Claim7.holds Tryz.pinned (.plain (OpenSpec.ofChange exportLeftSpec)) exportLeftCard

/-- THE SECOND FORM's CARD OF 'bitextlaw35.ExportWrites'. -/
def exportWritesUptoCard : Claim7 := { stood := { row := exportWritesUptoRow, standIns := [], harness := (true, "6419a547cb5836e536c90ec6741d6b42776b1268389dc43d936a11af80ff430a"), looks := true }, kinds := [], alts := [], laidByText := true, laidKinds := [.data, .data, .data, .data, .pinned], laidTests := true, laidLooks := .later }
def ExportWritesUptoCardSaid : Prop := Claim7.holds Tryz.pinned (.plain (OpenSpec.upto exportWritesSpec)) exportWritesUptoCard

/-- THE SECOND FORM's CARD OF 'bitextlaw35.ExportPreviews'. -/
def exportPreviewsUptoCard : Claim7 := { stood := { row := exportPreviewsUptoRow, standIns := [], harness := (true, "6419a547cb5836e536c90ec6741d6b42776b1268389dc43d936a11af80ff430a"), looks := true }, kinds := [], alts := [], laidByText := true, laidKinds := [.data, .data, .data, .data, .pinned], laidTests := true, laidLooks := .later }
def ExportPreviewsUptoCardSaid : Prop := Claim7.holds Tryz.pinned (.plain (OpenSpec.upto exportPreviewsSpec)) exportPreviewsUptoCard

/-- THE SECOND FORM's CARD OF 'bitextlaw35.ExportSpans'. -/
def exportSpansUptoCard : Claim7 := { stood := { row := exportSpansUptoRow, standIns := [], harness := (true, "6419a547cb5836e536c90ec6741d6b42776b1268389dc43d936a11af80ff430a"), looks := true }, kinds := [], alts := [], laidByText := true, laidKinds := [.data, .data, .data, .data, .pinned], laidTests := true, laidLooks := .later }
def ExportSpansUptoCardSaid : Prop := Claim7.holds Tryz.pinned (.plain (OpenSpec.upto exportSpansSpec)) exportSpansUptoCard

/-- THE SECOND FORM's CARD OF 'bitextlaw35.ExportOutside'. -/
def exportOutsideUptoCard : Claim7 := { stood := { row := exportOutsideUptoRow, standIns := [], harness := (true, "6419a547cb5836e536c90ec6741d6b42776b1268389dc43d936a11af80ff430a"), looks := true }, kinds := [], alts := [], laidByText := true, laidKinds := [.data, .data, .data, .data, .pinned], laidTests := true, laidLooks := .later }
def ExportOutsideUptoCardSaid : Prop := Claim7.holds Tryz.pinned (.plain (OpenSpec.upto exportOutsideSpec)) exportOutsideUptoCard

/-- THE SECOND FORM's CARD OF 'bitextlaw35.ExportContents'. -/
def exportContentsUptoCard : Claim7 := { stood := { row := exportContentsUptoRow, standIns := [], harness := (true, "6419a547cb5836e536c90ec6741d6b42776b1268389dc43d936a11af80ff430a"), looks := true }, kinds := [], alts := [], laidByText := true, laidKinds := [.data, .data, .data, .data, .pinned], laidTests := true, laidLooks := .later }
def ExportContentsUptoCardSaid : Prop := Claim7.holds Tryz.pinned (.plain (OpenSpec.upto exportContentsSpec)) exportContentsUptoCard

/-- THE SECOND FORM's CARD OF 'bitextlaw35.ExportLeft'. -/
def exportLeftUptoCard : Claim7 := { stood := { row := exportLeftUptoRow, standIns := [], harness := (true, "6419a547cb5836e536c90ec6741d6b42776b1268389dc43d936a11af80ff430a"), looks := true }, kinds := [], alts := [], laidByText := true, laidKinds := [.data, .data, .data, .data, .pinned], laidTests := true, laidLooks := .later }
def ExportLeftUptoCardSaid : Prop := Claim7.holds Tryz.pinned (.plain (OpenSpec.upto exportLeftSpec)) exportLeftUptoCard
end Rows
end Go.Proofs.YtgbmhohlapmgbaaGreatDoor
