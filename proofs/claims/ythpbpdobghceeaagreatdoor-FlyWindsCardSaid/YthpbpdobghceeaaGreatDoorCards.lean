/-
  DERIVED. GIVEN WITH THE SEED: THE CARDS: each row of YthpbpdobghceeaaGreatDoorRows.lean that lists a variable, with what it lists TIED to the program's text (the seventh form; the later family's looks); each row that meets fmt, with fmt's text TOLD by the authors' own Lean function (tested against real Go, not proved from fmt's source: count such statements apart). THE CARD IS WHAT COUNTS. Prove the row's statement (the work); the ties are given (YthpbpdobghceeaaGreatDoorTie.lean); close each card by the builder's one call (the guide's Derived/Test/ToyasCard.lean, 'card_holds'). Laid BY PROGRAM, IN A SANDBOX (cutbox-door.mjs). By AI agents, Wed Nov 11 2026. No macro, syntax, notation, axiom, sorry.
-/
import Derived.Test.YthpbpdobghceeaaGreatDoorRows
import GoSem.ClaimSeven
namespace Go.Proofs.YthpbpdobghceeaaGreatDoor
namespace Rows

/-- THE TIED CARD OF 'skywaytop.TopWidening'. -/
def topWideningCard : Claim7 := { stood := { row := topWideningRow, standIns := [], harness := (true, "4f3786cffe145d9520fe86357bcb05d54b9248d8178f74690494c15adae5e935"), looks := false }, kinds := [], alts := [], laidByText := true, laidKinds := [.data, .data, .data], laidTests := true, laidLooks := .later }
def TopWideningCardSaid : Prop := Claim7.holds Tryz.pinned (.plain (OpenSpec.ofChange topWideningSpec)) topWideningCard

/-- THE TIED CARD OF 'skywaytop.TopClosed'. -/
def topClosedCard : Claim7 := { stood := { row := topClosedRow, standIns := [], harness := (true, "4f3786cffe145d9520fe86357bcb05d54b9248d8178f74690494c15adae5e935"), looks := false }, kinds := [], alts := [], laidByText := true, laidKinds := [.data, .data, .data], laidTests := true, laidLooks := .later }
def TopClosedCardSaid : Prop := Claim7.holds Tryz.pinned (.plain (OpenSpec.ofChange topClosedSpec)) topClosedCard

/-- THE TIED CARD OF 'skywaytop.TopProbeNeverMisses'. -/
def topProbeNeverMissesCard : Claim7 := { stood := { row := topProbeNeverMissesRow, standIns := [], harness := (true, "4f3786cffe145d9520fe86357bcb05d54b9248d8178f74690494c15adae5e935"), looks := false }, kinds := [], alts := [], laidByText := true, laidKinds := [.data, .data, .data], laidTests := true, laidLooks := .later }
def TopProbeNeverMissesCardSaid : Prop := Claim7.holds Tryz.pinned (.plain (OpenSpec.ofChange topProbeNeverMissesSpec)) topProbeNeverMissesCard

/-- THE TIED CARD OF 'skywaykeep1.FlyWinds'. -/
def flyWindsCard : Claim7 := { stood := { row := flyWindsRow, standIns := [], harness := (true, "4f3786cffe145d9520fe86357bcb05d54b9248d8178f74690494c15adae5e935"), looks := false }, kinds := [], alts := [], laidByText := true, laidKinds := [.data, .data, .data], laidTests := true, laidLooks := .later }
def FlyWindsCardSaid : Prop := Claim7.holds Tryz.pinned (.plain (OpenSpec.ofChange flyWindsSpec)) flyWindsCard

/-- THE SECOND FORM's CARD OF 'skywaytop.TopWidening'. -/
def topWideningUptoCard : Claim7 := { stood := { row := topWideningUptoRow, standIns := [], harness := (true, "4f3786cffe145d9520fe86357bcb05d54b9248d8178f74690494c15adae5e935"), looks := false }, kinds := [], alts := [], laidByText := true, laidKinds := [.data, .data, .data], laidTests := true, laidLooks := .later }
def TopWideningUptoCardSaid : Prop := Claim7.holds Tryz.pinned (.plain (OpenSpec.upto topWideningSpec)) topWideningUptoCard

/-- THE SECOND FORM's CARD OF 'skywaytop.TopClosed'. -/
def topClosedUptoCard : Claim7 := { stood := { row := topClosedUptoRow, standIns := [], harness := (true, "4f3786cffe145d9520fe86357bcb05d54b9248d8178f74690494c15adae5e935"), looks := false }, kinds := [], alts := [], laidByText := true, laidKinds := [.data, .data, .data], laidTests := true, laidLooks := .later }
def TopClosedUptoCardSaid : Prop := Claim7.holds Tryz.pinned (.plain (OpenSpec.upto topClosedSpec)) topClosedUptoCard

/-- THE SECOND FORM's CARD OF 'skywaytop.TopProbeNeverMisses'. -/
def topProbeNeverMissesUptoCard : Claim7 := { stood := { row := topProbeNeverMissesUptoRow, standIns := [], harness := (true, "4f3786cffe145d9520fe86357bcb05d54b9248d8178f74690494c15adae5e935"), looks := false }, kinds := [], alts := [], laidByText := true, laidKinds := [.data, .data, .data], laidTests := true, laidLooks := .later }
def TopProbeNeverMissesUptoCardSaid : Prop := Claim7.holds Tryz.pinned (.plain (OpenSpec.upto topProbeNeverMissesSpec)) topProbeNeverMissesUptoCard

/-- THE SECOND FORM's CARD OF 'skywaykeep1.FlyWinds'. -/
def flyWindsUptoCard : Claim7 := { stood := { row := flyWindsUptoRow, standIns := [], harness := (true, "4f3786cffe145d9520fe86357bcb05d54b9248d8178f74690494c15adae5e935"), looks := false }, kinds := [], alts := [], laidByText := true, laidKinds := [.data, .data, .data], laidTests := true, laidLooks := .later }
def FlyWindsUptoCardSaid : Prop := Claim7.holds Tryz.pinned (.plain (OpenSpec.upto flyWindsSpec)) flyWindsUptoCard
end Rows
end Go.Proofs.YthpbpdobghceeaaGreatDoor
