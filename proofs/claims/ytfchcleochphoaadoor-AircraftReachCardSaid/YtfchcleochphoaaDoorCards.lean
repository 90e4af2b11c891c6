/-
  DERIVED. GIVEN WITH THE SEED: THE CARDS: each row of YtfchcleochphoaaDoorRows.lean that lists a variable, with what it lists TIED to the program's text (the seventh form; the later family's looks); each row that meets fmt, with fmt's text TOLD by the authors' own Lean function (tested against real Go, not proved from fmt's source: count such statements apart). THE CARD IS WHAT COUNTS. Prove the row's statement (the work); the ties are given (YtfchcleochphoaaDoorTie.lean); close each card by the builder's one call (the guide's Derived/Test/ToyasCard.lean, 'card_holds'). Laid BY PROGRAM, IN A SANDBOX (cutbox-door.mjs). By AI agents, Wed Nov 11 2026. No macro, syntax, notation, axiom, sorry.
-/
import Derived.Test.YtfchcleochphoaaDoorRows
import GoSem.ClaimSeven
namespace Go.Proofs.YtfchcleochphoaaDoor
namespace Rows

/-- THE TIED CARD OF 'skywaykeep1.AircraftReach'. -/
def aircraftReachCard : Claim7 := { stood := { row := aircraftReachRow, standIns := [], harness := (true, "8394f6b9114444b6766a66ee1f23099e601f60190a44d6fde5c3ee8af29b0283"), looks := true }, kinds := [], alts := [], laidByText := true, laidKinds := [.data, .data, .data], laidTests := true, laidLooks := .later }
def AircraftReachCardSaid : Prop := Claim7.holds Tryd.pinned (.plain (OpenSpec.ofChange aircraftReachSpec)) aircraftReachCard

/-- THE TIED CARD OF 'skywaykeep1.AircraftTexts'. -/
def aircraftTextsCard : Claim7 := { stood := { row := aircraftTextsRow, standIns := [], harness := (true, "8394f6b9114444b6766a66ee1f23099e601f60190a44d6fde5c3ee8af29b0283"), looks := true }, kinds := [], alts := [], laidByText := true, laidKinds := [.data, .data, .data, .data, .sentinel, .sentinel, .pinned], laidTests := true, laidLooks := .later }
def AircraftTextsCardSaid : Prop := Claim7.holds Tryd.pinned (.plain (OpenSpec.ofChange aircraftTextsSpec)) aircraftTextsCard

/-- THE TIED CARD OF 'skywaykeep1.BitsFloors'. -/
def bitsFloorsCard : Claim7 := { stood := { row := bitsFloorsRow, standIns := [], harness := (true, "8394f6b9114444b6766a66ee1f23099e601f60190a44d6fde5c3ee8af29b0283"), looks := true }, kinds := [], alts := [], laidByText := true, laidKinds := [.data, .data, .data, .data, .pinned], laidTests := true, laidLooks := .later }
def BitsFloorsCardSaid : Prop := Claim7.holds Tryd.pinned (.plain (OpenSpec.ofChange bitsFloorsSpec)) bitsFloorsCard

/-- THE TIED CARD OF 'skywaykeep1.BitsBack'. -/
def bitsBackCard : Claim7 := { stood := { row := bitsBackRow, standIns := [], harness := (true, "8394f6b9114444b6766a66ee1f23099e601f60190a44d6fde5c3ee8af29b0283"), looks := true }, kinds := [], alts := [], laidByText := true, laidKinds := [.data, .data, .data, .data, .pinned], laidTests := true, laidLooks := .later }
def BitsBackCardSaid : Prop := Claim7.holds Tryd.pinned (.plain (OpenSpec.ofChange bitsBackSpec)) bitsBackCard

/-- THE TIED CARD OF 'skywaykeep1.BitsTexts'. -/
def bitsTextsCard : Claim7 := { stood := { row := bitsTextsRow, standIns := [], harness := (true, "8394f6b9114444b6766a66ee1f23099e601f60190a44d6fde5c3ee8af29b0283"), looks := true }, kinds := [], alts := [], laidByText := true, laidKinds := [.data, .data, .data, .data, .pinned], laidTests := true, laidLooks := .later }
def BitsTextsCardSaid : Prop := Claim7.holds Tryd.pinned (.plain (OpenSpec.ofChange bitsTextsSpec)) bitsTextsCard

/-- THE TIED CARD OF 'skywaykeep1.BitsOrder'. -/
def bitsOrderCard : Claim7 := { stood := { row := bitsOrderRow, standIns := [], harness := (true, "8394f6b9114444b6766a66ee1f23099e601f60190a44d6fde5c3ee8af29b0283"), looks := true }, kinds := [], alts := [], laidByText := true, laidKinds := [.data, .data, .data, .data, .pinned], laidTests := true, laidLooks := .later }
def BitsOrderCardSaid : Prop := Claim7.holds Tryd.pinned (.plain (OpenSpec.ofChange bitsOrderSpec)) bitsOrderCard

/-- THE SECOND FORM's CARD OF 'skywaykeep1.AircraftReach'. -/
def aircraftReachUptoCard : Claim7 := { stood := { row := aircraftReachUptoRow, standIns := [], harness := (true, "8394f6b9114444b6766a66ee1f23099e601f60190a44d6fde5c3ee8af29b0283"), looks := true }, kinds := [], alts := [], laidByText := true, laidKinds := [.data, .data, .data], laidTests := true, laidLooks := .later }
def AircraftReachUptoCardSaid : Prop := Claim7.holds Tryd.pinned (.plain (OpenSpec.upto aircraftReachSpec)) aircraftReachUptoCard

/-- THE SECOND FORM's CARD OF 'skywaykeep1.AircraftTexts'. -/
def aircraftTextsUptoCard : Claim7 := { stood := { row := aircraftTextsUptoRow, standIns := [], harness := (true, "8394f6b9114444b6766a66ee1f23099e601f60190a44d6fde5c3ee8af29b0283"), looks := true }, kinds := [], alts := [], laidByText := true, laidKinds := [.data, .data, .data, .data, .sentinel, .sentinel, .pinned], laidTests := true, laidLooks := .later }
def AircraftTextsUptoCardSaid : Prop := Claim7.holds Tryd.pinned (.plain (OpenSpec.upto aircraftTextsSpec)) aircraftTextsUptoCard

/-- THE SECOND FORM's CARD OF 'skywaykeep1.BitsFloors'. -/
def bitsFloorsUptoCard : Claim7 := { stood := { row := bitsFloorsUptoRow, standIns := [], harness := (true, "8394f6b9114444b6766a66ee1f23099e601f60190a44d6fde5c3ee8af29b0283"), looks := true }, kinds := [], alts := [], laidByText := true, laidKinds := [.data, .data, .data, .data, .pinned], laidTests := true, laidLooks := .later }
def BitsFloorsUptoCardSaid : Prop := Claim7.holds Tryd.pinned (.plain (OpenSpec.upto bitsFloorsSpec)) bitsFloorsUptoCard

/-- THE SECOND FORM's CARD OF 'skywaykeep1.BitsBack'. -/
def bitsBackUptoCard : Claim7 := { stood := { row := bitsBackUptoRow, standIns := [], harness := (true, "8394f6b9114444b6766a66ee1f23099e601f60190a44d6fde5c3ee8af29b0283"), looks := true }, kinds := [], alts := [], laidByText := true, laidKinds := [.data, .data, .data, .data, .pinned], laidTests := true, laidLooks := .later }
def BitsBackUptoCardSaid : Prop := Claim7.holds Tryd.pinned (.plain (OpenSpec.upto bitsBackSpec)) bitsBackUptoCard

/-- THE SECOND FORM's CARD OF 'skywaykeep1.BitsTexts'. -/
def bitsTextsUptoCard : Claim7 := { stood := { row := bitsTextsUptoRow, standIns := [], harness := (true, "8394f6b9114444b6766a66ee1f23099e601f60190a44d6fde5c3ee8af29b0283"), looks := true }, kinds := [], alts := [], laidByText := true, laidKinds := [.data, .data, .data, .data, .pinned], laidTests := true, laidLooks := .later }
def BitsTextsUptoCardSaid : Prop := Claim7.holds Tryd.pinned (.plain (OpenSpec.upto bitsTextsSpec)) bitsTextsUptoCard

/-- THE SECOND FORM's CARD OF 'skywaykeep1.BitsOrder'. -/
def bitsOrderUptoCard : Claim7 := { stood := { row := bitsOrderUptoRow, standIns := [], harness := (true, "8394f6b9114444b6766a66ee1f23099e601f60190a44d6fde5c3ee8af29b0283"), looks := true }, kinds := [], alts := [], laidByText := true, laidKinds := [.data, .data, .data, .data, .pinned], laidTests := true, laidLooks := .later }
def BitsOrderUptoCardSaid : Prop := Claim7.holds Tryd.pinned (.plain (OpenSpec.upto bitsOrderSpec)) bitsOrderUptoCard
end Rows
end Go.Proofs.YtfchcleochphoaaDoor
