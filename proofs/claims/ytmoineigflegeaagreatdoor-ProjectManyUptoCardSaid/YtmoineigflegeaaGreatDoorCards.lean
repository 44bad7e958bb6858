/-
  DERIVED. GIVEN WITH THE SEED: THE CARDS: each row of YtmoineigflegeaaGreatDoorRows.lean that lists a variable, with what it lists TIED to the program's text (the seventh form; the later family's looks); each row that meets fmt, with fmt's text TOLD by the authors' own Lean function (tested against real Go, not proved from fmt's source: count such statements apart). THE CARD IS WHAT COUNTS. Prove the row's statement (the work); the ties are given (YtmoineigflegeaaGreatDoorTie.lean); close each card by the builder's one call (the guide's Derived/Test/ToyasCard.lean, 'card_holds'). Laid BY PROGRAM, IN A SANDBOX (cutbox-door.mjs). By AI agents, Wed Nov 11 2026. No macro, syntax, notation, axiom, sorry.
-/
import Derived.Test.YtmoineigflegeaaGreatDoorRows
import GoSem.ClaimSeven
namespace Go.Proofs.YtmoineigflegeaaGreatDoor
namespace Rows

/-- THE TIED CARD OF 'bitextlaw26.ProjectMany'. -/
def projectManyCard : Claim7 := { stood := { row := projectManyRow, standIns := [], harness := (true, "84fff977a1d084e8ac2baa40bc8d731e444ddfa79297892c94a3a5b985f5b650"), looks := true }, kinds := [], alts := [], laidByText := true, laidKinds := [.data, .data, .data, .data, .pinned], laidTests := true, laidLooks := .later }
def ProjectManyCardSaid : Prop := Claim7.holds Tryz.pinned (.plain (OpenSpec.ofChange projectManySpec)) projectManyCard

/-- THE TIED CARD OF 'bitextlaw26.ProjectLimits'. -/
def projectLimitsCard : Claim7 := { stood := { row := projectLimitsRow, standIns := [], harness := (true, "84fff977a1d084e8ac2baa40bc8d731e444ddfa79297892c94a3a5b985f5b650"), looks := true }, kinds := [], alts := [], laidByText := true, laidKinds := [.data, .data, .data, .data, .pinned], laidTests := true, laidLooks := .later }
def ProjectLimitsCardSaid : Prop := Claim7.holds Tryz.pinned (.plain (OpenSpec.ofChange projectLimitsSpec)) projectLimitsCard

/-- THE SECOND FORM's CARD OF 'bitextlaw26.ProjectMany'. -/
def projectManyUptoCard : Claim7 := { stood := { row := projectManyUptoRow, standIns := [], harness := (true, "84fff977a1d084e8ac2baa40bc8d731e444ddfa79297892c94a3a5b985f5b650"), looks := true }, kinds := [], alts := [], laidByText := true, laidKinds := [.data, .data, .data, .data, .pinned], laidTests := true, laidLooks := .later }
def ProjectManyUptoCardSaid : Prop := Claim7.holds Tryz.pinned (.plain (OpenSpec.upto projectManySpec)) projectManyUptoCard

/-- THE SECOND FORM's CARD OF 'bitextlaw26.ProjectLimits'. -/
def projectLimitsUptoCard : Claim7 := { stood := { row := projectLimitsUptoRow, standIns := [], harness := (true, "84fff977a1d084e8ac2baa40bc8d731e444ddfa79297892c94a3a5b985f5b650"), looks := true }, kinds := [], alts := [], laidByText := true, laidKinds := [.data, .data, .data, .data, .pinned], laidTests := true, laidLooks := .later }
def ProjectLimitsUptoCardSaid : Prop := Claim7.holds Tryz.pinned (.plain (OpenSpec.upto projectLimitsSpec)) projectLimitsUptoCard
end Rows
end Go.Proofs.YtmoineigflegeaaGreatDoor
