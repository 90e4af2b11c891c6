/-
  DERIVED. GIVEN WITH THE SEED: THE CARDS: each row of YthpbpdobghceeaaDoorRows.lean that lists a variable, with what it lists TIED to the program's text (the seventh form; the later family's looks); each row that meets fmt, with fmt's text TOLD by the authors' own Lean function (tested against real Go, not proved from fmt's source: count such statements apart). THE CARD IS WHAT COUNTS. Prove the row's statement (the work); the ties are given (YthpbpdobghceeaaDoorTie.lean); close each card by the builder's one call (the guide's Derived/Test/ToyasCard.lean, 'card_holds'). Laid BY PROGRAM, IN A SANDBOX (cutbox-door.mjs). By AI agents, Wed Nov 11 2026. No macro, syntax, notation, axiom, sorry.
-/
import Derived.Test.YthpbpdobghceeaaDoorRows
import GoSem.ClaimSeven
namespace Go.Proofs.YthpbpdobghceeaaDoor
namespace Rows

/-- THE TIED CARD OF 'skywaykeep1.AngleCircle'. -/
def angleCircleCard : Claim7 := { stood := { row := angleCircleRow, standIns := [], harness := (true, "17ef80045a9fa5e274109680073313d154a430c2368af78a9801b0bd952e068e"), looks := false }, kinds := [], alts := [], laidByText := true, laidKinds := [.data, .data, .data], laidTests := true, laidLooks := .later }
def AngleCircleCardSaid : Prop := Claim7.holds Tryd.pinned (.plain (OpenSpec.ofChange angleCircleSpec)) angleCircleCard

/-- THE TIED CARD OF 'skywaykeep1.AngleSums'. -/
def angleSumsCard : Claim7 := { stood := { row := angleSumsRow, standIns := [], harness := (true, "17ef80045a9fa5e274109680073313d154a430c2368af78a9801b0bd952e068e"), looks := false }, kinds := [], alts := [], laidByText := true, laidKinds := [.data, .data, .data], laidTests := true, laidLooks := .later }
def AngleSumsCardSaid : Prop := Claim7.holds Tryd.pinned (.plain (OpenSpec.ofChange angleSumsSpec)) angleSumsCard

/-- THE TIED CARD OF 'skywaykeep1.AngleTurns'. -/
def angleTurnsCard : Claim7 := { stood := { row := angleTurnsRow, standIns := [], harness := (true, "17ef80045a9fa5e274109680073313d154a430c2368af78a9801b0bd952e068e"), looks := false }, kinds := [], alts := [], laidByText := true, laidKinds := [.data, .data, .data], laidTests := true, laidLooks := .later }
def AngleTurnsCardSaid : Prop := Claim7.holds Tryd.pinned (.plain (OpenSpec.ofChange angleTurnsSpec)) angleTurnsCard

/-- THE TIED CARD OF 'skywaykeep1.AngleTurned'. -/
def angleTurnedCard : Claim7 := { stood := { row := angleTurnedRow, standIns := [], harness := (true, "17ef80045a9fa5e274109680073313d154a430c2368af78a9801b0bd952e068e"), looks := false }, kinds := [], alts := [], laidByText := true, laidKinds := [.data, .data, .data], laidTests := true, laidLooks := .later }
def AngleTurnedCardSaid : Prop := Claim7.holds Tryd.pinned (.plain (OpenSpec.ofChange angleTurnedSpec)) angleTurnedCard

/-- THE TIED CARD OF 'skywaykeep1.AngleBack'. -/
def angleBackCard : Claim7 := { stood := { row := angleBackRow, standIns := [], harness := (true, "17ef80045a9fa5e274109680073313d154a430c2368af78a9801b0bd952e068e"), looks := false }, kinds := [], alts := [], laidByText := true, laidKinds := [.data, .data, .data], laidTests := true, laidLooks := .later }
def AngleBackCardSaid : Prop := Claim7.holds Tryd.pinned (.plain (OpenSpec.ofChange angleBackSpec)) angleBackCard

/-- THE TIED CARD OF 'skywaykeep1.WindBounds'. -/
def windBoundsCard : Claim7 := { stood := { row := windBoundsRow, standIns := [], harness := (true, "17ef80045a9fa5e274109680073313d154a430c2368af78a9801b0bd952e068e"), looks := false }, kinds := [], alts := [], laidByText := true, laidKinds := [.data, .data, .data], laidTests := true, laidLooks := .later }
def WindBoundsCardSaid : Prop := Claim7.holds Tryd.pinned (.plain (OpenSpec.ofChange windBoundsSpec)) windBoundsCard

/-- THE TIED CARD OF 'skywaykeep1.WindLegs'. -/
def windLegsCard : Claim7 := { stood := { row := windLegsRow, standIns := [], harness := (true, "17ef80045a9fa5e274109680073313d154a430c2368af78a9801b0bd952e068e"), looks := false }, kinds := [], alts := [], laidByText := true, laidKinds := [.data, .data, .data], laidTests := true, laidLooks := .later }
def WindLegsCardSaid : Prop := Claim7.holds Tryd.pinned (.plain (OpenSpec.ofChange windLegsSpec)) windLegsCard

/-- THE TIED CARD OF 'skywaykeep1.WindAt'. -/
def windAtCard : Claim7 := { stood := { row := windAtRow, standIns := [], harness := (true, "17ef80045a9fa5e274109680073313d154a430c2368af78a9801b0bd952e068e"), looks := false }, kinds := [], alts := [], laidByText := true, laidKinds := [.data, .data, .data], laidTests := true, laidLooks := .later }
def WindAtCardSaid : Prop := Claim7.holds Tryd.pinned (.plain (OpenSpec.ofChange windAtSpec)) windAtCard

/-- THE SECOND FORM's CARD OF 'skywaykeep1.AngleCircle'. -/
def angleCircleUptoCard : Claim7 := { stood := { row := angleCircleUptoRow, standIns := [], harness := (true, "17ef80045a9fa5e274109680073313d154a430c2368af78a9801b0bd952e068e"), looks := false }, kinds := [], alts := [], laidByText := true, laidKinds := [.data, .data, .data], laidTests := true, laidLooks := .later }
def AngleCircleUptoCardSaid : Prop := Claim7.holds Tryd.pinned (.plain (OpenSpec.upto angleCircleSpec)) angleCircleUptoCard

/-- THE SECOND FORM's CARD OF 'skywaykeep1.AngleSums'. -/
def angleSumsUptoCard : Claim7 := { stood := { row := angleSumsUptoRow, standIns := [], harness := (true, "17ef80045a9fa5e274109680073313d154a430c2368af78a9801b0bd952e068e"), looks := false }, kinds := [], alts := [], laidByText := true, laidKinds := [.data, .data, .data], laidTests := true, laidLooks := .later }
def AngleSumsUptoCardSaid : Prop := Claim7.holds Tryd.pinned (.plain (OpenSpec.upto angleSumsSpec)) angleSumsUptoCard

/-- THE SECOND FORM's CARD OF 'skywaykeep1.AngleTurns'. -/
def angleTurnsUptoCard : Claim7 := { stood := { row := angleTurnsUptoRow, standIns := [], harness := (true, "17ef80045a9fa5e274109680073313d154a430c2368af78a9801b0bd952e068e"), looks := false }, kinds := [], alts := [], laidByText := true, laidKinds := [.data, .data, .data], laidTests := true, laidLooks := .later }
def AngleTurnsUptoCardSaid : Prop := Claim7.holds Tryd.pinned (.plain (OpenSpec.upto angleTurnsSpec)) angleTurnsUptoCard

/-- THE SECOND FORM's CARD OF 'skywaykeep1.AngleTurned'. -/
def angleTurnedUptoCard : Claim7 := { stood := { row := angleTurnedUptoRow, standIns := [], harness := (true, "17ef80045a9fa5e274109680073313d154a430c2368af78a9801b0bd952e068e"), looks := false }, kinds := [], alts := [], laidByText := true, laidKinds := [.data, .data, .data], laidTests := true, laidLooks := .later }
def AngleTurnedUptoCardSaid : Prop := Claim7.holds Tryd.pinned (.plain (OpenSpec.upto angleTurnedSpec)) angleTurnedUptoCard

/-- THE SECOND FORM's CARD OF 'skywaykeep1.AngleBack'. -/
def angleBackUptoCard : Claim7 := { stood := { row := angleBackUptoRow, standIns := [], harness := (true, "17ef80045a9fa5e274109680073313d154a430c2368af78a9801b0bd952e068e"), looks := false }, kinds := [], alts := [], laidByText := true, laidKinds := [.data, .data, .data], laidTests := true, laidLooks := .later }
def AngleBackUptoCardSaid : Prop := Claim7.holds Tryd.pinned (.plain (OpenSpec.upto angleBackSpec)) angleBackUptoCard

/-- THE SECOND FORM's CARD OF 'skywaykeep1.WindBounds'. -/
def windBoundsUptoCard : Claim7 := { stood := { row := windBoundsUptoRow, standIns := [], harness := (true, "17ef80045a9fa5e274109680073313d154a430c2368af78a9801b0bd952e068e"), looks := false }, kinds := [], alts := [], laidByText := true, laidKinds := [.data, .data, .data], laidTests := true, laidLooks := .later }
def WindBoundsUptoCardSaid : Prop := Claim7.holds Tryd.pinned (.plain (OpenSpec.upto windBoundsSpec)) windBoundsUptoCard

/-- THE SECOND FORM's CARD OF 'skywaykeep1.WindLegs'. -/
def windLegsUptoCard : Claim7 := { stood := { row := windLegsUptoRow, standIns := [], harness := (true, "17ef80045a9fa5e274109680073313d154a430c2368af78a9801b0bd952e068e"), looks := false }, kinds := [], alts := [], laidByText := true, laidKinds := [.data, .data, .data], laidTests := true, laidLooks := .later }
def WindLegsUptoCardSaid : Prop := Claim7.holds Tryd.pinned (.plain (OpenSpec.upto windLegsSpec)) windLegsUptoCard

/-- THE SECOND FORM's CARD OF 'skywaykeep1.WindAt'. -/
def windAtUptoCard : Claim7 := { stood := { row := windAtUptoRow, standIns := [], harness := (true, "17ef80045a9fa5e274109680073313d154a430c2368af78a9801b0bd952e068e"), looks := false }, kinds := [], alts := [], laidByText := true, laidKinds := [.data, .data, .data], laidTests := true, laidLooks := .later }
def WindAtUptoCardSaid : Prop := Claim7.holds Tryd.pinned (.plain (OpenSpec.upto windAtSpec)) windAtUptoCard
end Rows
end Go.Proofs.YthpbpdobghceeaaDoor
