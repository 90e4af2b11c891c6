/-
  No cell of these rows narrows 'for every input' (looked for: loops, veiled, ifaces, maps, wideKeys, modest, calm, conditions, laid).
  DERIVED. THE GIVEN ROWS OF THIS SEAT. 12 by the template 'for every input the law returns true; each argument reads behind the call as it read before'; 0 by the template 'total and deterministic' (their statements: YtaahnfajcbkknaaTotals.lean).
  GIVEN WITH THE SEED: the statements are not yours to turn. If you find one false, say at which input.
  Laid BY PROGRAM, IN A SANDBOX (cutbox-rows.mjs): the forced cells as the released guide's own fill.sh prints them over the translation 8d36e9108aba86b4… (all of the seat's roots in one cut). By AI agents, Wed Nov 11 2026. No macro, syntax, notation, axiom, sorry.
-/
import Derived.Test.YtaahnfajcbkknaaChecked
import GoSem.Claim
import GoSem.ClaimJoined
import GoSem.ClaimMapViews
import Derived.JoinedTies
import Derived.KernelRfl
namespace Go.Proofs.Ytaahnfajcbkknaa
/- THE CELL 'sum', in the pinned program and in every row, IS THE sha256 OF THE DUMP (.gsa) THAT YtaahnfajcbkknaaProg.lean LOADS. Nothing in Lean hashes anything: it is a label: what it is worth is what the hold of that sum in a sandbox is worth. -/
noncomputable def Try.pinned : Pinned := { name := "ytaahnfajcbkknaa", sum := "8d36e9108aba86b44ce44274bed72ccfd5a08207fe061b6f80e1719e9509a889", checked := Try.checked }
namespace Rows
def none {H : Type} : Left H := { results := [], args := [] }

/-- 'skywaykeep1.NumRounds': WHATEVER THE INPUT: true; the input reads as it did. -/
def numRoundsSpec : ChangeSpec := { name := "numRounds", fn := fun _ => fun
  | [d1, d2] => { results := [.lit (.bool true)], args := [d1, d2] }
  | _ => none }
def numRoundsRow : OpenClaim := { program := "ytaahnfajcbkknaa", sum := "8d36e9108aba86b44ce44274bed72ccfd5a08207fe061b6f80e1719e9509a889", func := "skyway/skywaykeep1.NumRounds", spec := "numRounds", apart := false }
def NumRoundsSaid : Prop := numRoundsRow.holds Try.pinned (OpenSpec.ofChange numRoundsSpec)

/-- ITS FALSE NEIGHBOUR: 'it returns false'. Refute it at one input. -/
def numRoundsWrong : ChangeSpec := { name := "numRounds", fn := fun _ => fun
  | [d1, d2] => { results := [.lit (.bool false)], args := [d1, d2] }
  | _ => none }
def NumRoundsWrongFalsely : Prop := numRoundsRow.holds Try.pinned (OpenSpec.ofChange numRoundsWrong)

/-- 'skywaykeep1.NumDivides': WHATEVER THE INPUT: true; the input reads as it did. -/
def numDividesSpec : ChangeSpec := { name := "numDivides", fn := fun _ => fun
  | [d1, d2] => { results := [.lit (.bool true)], args := [d1, d2] }
  | _ => none }
def numDividesRow : OpenClaim := { program := "ytaahnfajcbkknaa", sum := "8d36e9108aba86b44ce44274bed72ccfd5a08207fe061b6f80e1719e9509a889", func := "skyway/skywaykeep1.NumDivides", spec := "numDivides", apart := false }
def NumDividesSaid : Prop := numDividesRow.holds Try.pinned (OpenSpec.ofChange numDividesSpec)

/-- ITS FALSE NEIGHBOUR: 'it returns false'. Refute it at one input. -/
def numDividesWrong : ChangeSpec := { name := "numDivides", fn := fun _ => fun
  | [d1, d2] => { results := [.lit (.bool false)], args := [d1, d2] }
  | _ => none }
def NumDividesWrongFalsely : Prop := numDividesRow.holds Try.pinned (OpenSpec.ofChange numDividesWrong)

/-- 'skywaykeep1.HeapqOrder': WHATEVER THE INPUT: true; the input reads as it did. -/
def heapqOrderSpec : ChangeSpec := { name := "heapqOrder", fn := fun _ => fun
  | [d] => { results := [.lit (.bool true)], args := [d] }
  | _ => none }
def heapqOrderRow : OpenClaim := { program := "ytaahnfajcbkknaa", sum := "8d36e9108aba86b44ce44274bed72ccfd5a08207fe061b6f80e1719e9509a889", func := "skyway/skywaykeep1.HeapqOrder", spec := "heapqOrder", apart := false }
def HeapqOrderSaid : Prop := heapqOrderRow.holds Try.pinned (OpenSpec.ofChange heapqOrderSpec)

/-- ITS FALSE NEIGHBOUR: 'it returns false'. Refute it at one input. -/
def heapqOrderWrong : ChangeSpec := { name := "heapqOrder", fn := fun _ => fun
  | [d] => { results := [.lit (.bool false)], args := [d] }
  | _ => none }
def HeapqOrderWrongFalsely : Prop := heapqOrderRow.holds Try.pinned (OpenSpec.ofChange heapqOrderWrong)

/-- 'skywaykeep1.PlaneTriangle': WHATEVER THE INPUT: true; the input reads as it did. -/
def planeTriangleSpec : ChangeSpec := { name := "planeTriangle", fn := fun _ => fun
  | [d1, d2, d3] => { results := [.lit (.bool true)], args := [d1, d2, d3] }
  | _ => none }
def planeTriangleRow : OpenClaim := { program := "ytaahnfajcbkknaa", sum := "8d36e9108aba86b44ce44274bed72ccfd5a08207fe061b6f80e1719e9509a889", func := "skyway/skywaykeep1.PlaneTriangle", spec := "planeTriangle", inPlace := ["math.sqrt"], apart := false }
def PlaneTriangleSaid : Prop := planeTriangleRow.holds Try.pinned (OpenSpec.ofChange planeTriangleSpec)

/-- ITS FALSE NEIGHBOUR: 'it returns false'. Refute it at one input. -/
def planeTriangleWrong : ChangeSpec := { name := "planeTriangle", fn := fun _ => fun
  | [d1, d2, d3] => { results := [.lit (.bool false)], args := [d1, d2, d3] }
  | _ => none }
def PlaneTriangleWrongFalsely : Prop := planeTriangleRow.holds Try.pinned (OpenSpec.ofChange planeTriangleWrong)

/-- 'skywaykeep1.PlaneVectors': WHATEVER THE INPUT: true; the input reads as it did. -/
def planeVectorsSpec : ChangeSpec := { name := "planeVectors", fn := fun _ => fun
  | [d1, d2] => { results := [.lit (.bool true)], args := [d1, d2] }
  | _ => none }
def planeVectorsRow : OpenClaim := { program := "ytaahnfajcbkknaa", sum := "8d36e9108aba86b44ce44274bed72ccfd5a08207fe061b6f80e1719e9509a889", func := "skyway/skywaykeep1.PlaneVectors", spec := "planeVectors", inPlace := ["math.sqrt"], apart := false }
def PlaneVectorsSaid : Prop := planeVectorsRow.holds Try.pinned (OpenSpec.ofChange planeVectorsSpec)

/-- ITS FALSE NEIGHBOUR: 'it returns false'. Refute it at one input. -/
def planeVectorsWrong : ChangeSpec := { name := "planeVectors", fn := fun _ => fun
  | [d1, d2] => { results := [.lit (.bool false)], args := [d1, d2] }
  | _ => none }
def PlaneVectorsWrongFalsely : Prop := planeVectorsRow.holds Try.pinned (OpenSpec.ofChange planeVectorsWrong)

/-- 'skywaykeep1.FlyBetween': WHATEVER THE INPUT: true; the input reads as it did. -/
def flyBetweenSpec : ChangeSpec := { name := "flyBetween", fn := fun _ => fun
  | [d1, d2] => { results := [.lit (.bool true)], args := [d1, d2] }
  | _ => none }
def flyBetweenRow : OpenClaim := { program := "ytaahnfajcbkknaa", sum := "8d36e9108aba86b44ce44274bed72ccfd5a08207fe061b6f80e1719e9509a889", func := "skyway/skywaykeep1.FlyBetween", spec := "flyBetween", apart := false }
def FlyBetweenSaid : Prop := flyBetweenRow.holds Try.pinned (OpenSpec.ofChange flyBetweenSpec)

/-- ITS FALSE NEIGHBOUR: 'it returns false'. Refute it at one input. -/
def flyBetweenWrong : ChangeSpec := { name := "flyBetween", fn := fun _ => fun
  | [d1, d2] => { results := [.lit (.bool false)], args := [d1, d2] }
  | _ => none }
def FlyBetweenWrongFalsely : Prop := flyBetweenRow.holds Try.pinned (OpenSpec.ofChange flyBetweenWrong)

/-- 'skywaykeep1.PlaneTurns': WHATEVER THE INPUT: true; the input reads as it did. -/
def planeTurnsSpec : ChangeSpec := { name := "planeTurns", fn := fun _ => fun
  | [d1, d2, d3] => { results := [.lit (.bool true)], args := [d1, d2, d3] }
  | _ => none }
def planeTurnsRow : OpenClaim := { program := "ytaahnfajcbkknaa", sum := "8d36e9108aba86b44ce44274bed72ccfd5a08207fe061b6f80e1719e9509a889", func := "skyway/skywaykeep1.PlaneTurns", spec := "planeTurns", inPlace := ["math.sqrt"], apart := false }
def PlaneTurnsSaid : Prop := planeTurnsRow.holds Try.pinned (OpenSpec.ofChange planeTurnsSpec)

/-- ITS FALSE NEIGHBOUR: 'it returns false'. Refute it at one input. -/
def planeTurnsWrong : ChangeSpec := { name := "planeTurns", fn := fun _ => fun
  | [d1, d2, d3] => { results := [.lit (.bool false)], args := [d1, d2, d3] }
  | _ => none }
def PlaneTurnsWrongFalsely : Prop := planeTurnsRow.holds Try.pinned (OpenSpec.ofChange planeTurnsWrong)

/-- 'skywaykeep1.PlaneWay': WHATEVER THE INPUT: true; the input reads as it did. -/
def planeWaySpec : ChangeSpec := { name := "planeWay", fn := fun _ => fun
  | [d1, d2, d3, d4] => { results := [.lit (.bool true)], args := [d1, d2, d3, d4] }
  | _ => none }
def planeWayRow : OpenClaim := { program := "ytaahnfajcbkknaa", sum := "8d36e9108aba86b44ce44274bed72ccfd5a08207fe061b6f80e1719e9509a889", func := "skyway/skywaykeep1.PlaneWay", spec := "planeWay", inPlace := ["math.sqrt"], apart := false }
def PlaneWaySaid : Prop := planeWayRow.holds Try.pinned (OpenSpec.ofChange planeWaySpec)

/-- ITS FALSE NEIGHBOUR: 'it returns false'. Refute it at one input. -/
def planeWayWrong : ChangeSpec := { name := "planeWay", fn := fun _ => fun
  | [d1, d2, d3, d4] => { results := [.lit (.bool false)], args := [d1, d2, d3, d4] }
  | _ => none }
def PlaneWayWrongFalsely : Prop := planeWayRow.holds Try.pinned (OpenSpec.ofChange planeWayWrong)

/-- 'skywaykeep1.FlyShifts': WHATEVER THE INPUT: true; the input reads as it did. -/
def flyShiftsSpec : ChangeSpec := { name := "flyShifts", fn := fun _ => fun
  | [d1, d2, d3] => { results := [.lit (.bool true)], args := [d1, d2, d3] }
  | _ => none }
def flyShiftsRow : OpenClaim := { program := "ytaahnfajcbkknaa", sum := "8d36e9108aba86b44ce44274bed72ccfd5a08207fe061b6f80e1719e9509a889", func := "skyway/skywaykeep1.FlyShifts", spec := "flyShifts", apart := false }
def FlyShiftsSaid : Prop := flyShiftsRow.holds Try.pinned (OpenSpec.ofChange flyShiftsSpec)

/-- ITS FALSE NEIGHBOUR: 'it returns false'. Refute it at one input. -/
def flyShiftsWrong : ChangeSpec := { name := "flyShifts", fn := fun _ => fun
  | [d1, d2, d3] => { results := [.lit (.bool false)], args := [d1, d2, d3] }
  | _ => none }
def FlyShiftsWrongFalsely : Prop := flyShiftsRow.holds Try.pinned (OpenSpec.ofChange flyShiftsWrong)

/-- 'skywaykeep1.NumSame': WHATEVER THE INPUT: true; the input reads as it did. -/
def numSameSpec : ChangeSpec := { name := "numSame", fn := fun _ => fun
  | [d1, d2] => { results := [.lit (.bool true)], args := [d1, d2] }
  | _ => none }
def numSameRow : OpenClaim := { program := "ytaahnfajcbkknaa", sum := "8d36e9108aba86b44ce44274bed72ccfd5a08207fe061b6f80e1719e9509a889", func := "skyway/skywaykeep1.NumSame", spec := "numSame", named := ["math/bits.divideError", "math/bits.overflowError"], apart := false }
def NumSameSaid : Prop := numSameRow.holds Try.pinned (OpenSpec.ofChange numSameSpec)

/-- ITS FALSE NEIGHBOUR: 'it returns false'. Refute it at one input. -/
def numSameWrong : ChangeSpec := { name := "numSame", fn := fun _ => fun
  | [d1, d2] => { results := [.lit (.bool false)], args := [d1, d2] }
  | _ => none }
def NumSameWrongFalsely : Prop := numSameRow.holds Try.pinned (OpenSpec.ofChange numSameWrong)

/-- 'skywaykeep1.PolygonCommon': WHATEVER THE INPUT: true; the input reads as it did. -/
def polygonCommonSpec : ChangeSpec := { name := "polygonCommon", fn := fun _ => fun
  | [d1, d2, d3, d4] => { results := [.lit (.bool true)], args := [d1, d2, d3, d4] }
  | _ => none }
def polygonCommonRow : OpenClaim := { program := "ytaahnfajcbkknaa", sum := "8d36e9108aba86b44ce44274bed72ccfd5a08207fe061b6f80e1719e9509a889", func := "skyway/skywaykeep1.PolygonCommon", spec := "polygonCommon", apart := false }
def PolygonCommonSaid : Prop := polygonCommonRow.holds Try.pinned (OpenSpec.ofChange polygonCommonSpec)

/-- ITS FALSE NEIGHBOUR: 'it returns false'. Refute it at one input. -/
def polygonCommonWrong : ChangeSpec := { name := "polygonCommon", fn := fun _ => fun
  | [d1, d2, d3, d4] => { results := [.lit (.bool false)], args := [d1, d2, d3, d4] }
  | _ => none }
def PolygonCommonWrongFalsely : Prop := polygonCommonRow.holds Try.pinned (OpenSpec.ofChange polygonCommonWrong)

/-- 'skywaykeep1.FlyProfile': WHATEVER THE INPUT: true; the input reads as it did. -/
def flyProfileSpec : ChangeSpec := { name := "flyProfile", fn := fun _ => fun
  | [d1, d2, d3, d4] => { results := [.lit (.bool true)], args := [d1, d2, d3, d4] }
  | _ => none }
def flyProfileRow : OpenClaim := { program := "ytaahnfajcbkknaa", sum := "8d36e9108aba86b44ce44274bed72ccfd5a08207fe061b6f80e1719e9509a889", func := "skyway/skywaykeep1.FlyProfile", spec := "flyProfile", apart := false }
def FlyProfileSaid : Prop := flyProfileRow.holds Try.pinned (OpenSpec.ofChange flyProfileSpec)

/-- ITS FALSE NEIGHBOUR: 'it returns false'. Refute it at one input. -/
def flyProfileWrong : ChangeSpec := { name := "flyProfile", fn := fun _ => fun
  | [d1, d2, d3, d4] => { results := [.lit (.bool false)], args := [d1, d2, d3, d4] }
  | _ => none }
def FlyProfileWrongFalsely : Prop := flyProfileRow.holds Try.pinned (OpenSpec.ofChange flyProfileWrong)

/- THE SECOND FORM. 'bulk': how many values and letters a reading holds, each counted each time it is reached (what is shared counts as often as it is met; a slice's spare places count too). A statement '..UptoSaid' is the law's where the arguments, and the package variables that the reading takes, are together of bulk at most 1048576: NARROWER than '..Said'. Prove '..Said' where nothing that the law and all that it calls make is longer than what came in: it says more and counts as full. Else prove '..UptoSaid'. A law counts once. -/
mutual
def uptoBulk {H : Type} : DataW H → Nat
  | .lit (.string bytes) => bytes.length + 1
  | .lit _ => 1
  | .nil => 1
  | .ptr d => uptoBulk d + 1
  | .slice elems spare => uptoBulkAll elems + uptoBulkAll spare + 1
  | .agg parts => uptoBulkAll parts + 1
  | .iface _ d => uptoBulk d + 1
  | .map entries => uptoBulkEntries entries + 1
  | .held _ => 1
def uptoBulkAll {H : Type} : List (DataW H) → Nat
  | [] => 0
  | d :: r => uptoBulk d + uptoBulkAll r
def uptoBulkEntries {H : Type} : List (Lit × DataW H) → Nat
  | [] => 0
  | x :: r => uptoBulkEntry x + uptoBulkEntries r
def uptoBulkEntry {H : Type} : Lit × DataW H → Nat
  | (.string bytes, d) => bytes.length + uptoBulk d + 1
  | (_, d) => uptoBulk d + 1
 end
def uptoSmall : (H : Type) → List (DataW H) → Bool := fun _ ds => decide (uptoBulkAll ds ≤ 1048576)
def OpenSpec.upto (s : _root_.Go.ChangeSpec) : _root_.Go.OpenSpec := { _root_.Go.OpenSpec.ofChange s with cond := some uptoSmall }

/-- 'skywaykeep1.NumRounds', WHERE WHAT IT READS IS OF BULK AT MOST 1048576: true; the input reads as it did. -/
def numRoundsUptoRow : OpenClaim := { program := "ytaahnfajcbkknaa", sum := "8d36e9108aba86b44ce44274bed72ccfd5a08207fe061b6f80e1719e9509a889", func := "skyway/skywaykeep1.NumRounds", spec := "numRounds", apart := false, narrowed := true }
def NumRoundsUptoSaid : Prop := numRoundsUptoRow.holds Try.pinned (OpenSpec.upto numRoundsSpec)

/-- 'skywaykeep1.NumDivides', WHERE WHAT IT READS IS OF BULK AT MOST 1048576: true; the input reads as it did. -/
def numDividesUptoRow : OpenClaim := { program := "ytaahnfajcbkknaa", sum := "8d36e9108aba86b44ce44274bed72ccfd5a08207fe061b6f80e1719e9509a889", func := "skyway/skywaykeep1.NumDivides", spec := "numDivides", apart := false, narrowed := true }
def NumDividesUptoSaid : Prop := numDividesUptoRow.holds Try.pinned (OpenSpec.upto numDividesSpec)

/-- 'skywaykeep1.HeapqOrder', WHERE WHAT IT READS IS OF BULK AT MOST 1048576: true; the input reads as it did. -/
def heapqOrderUptoRow : OpenClaim := { program := "ytaahnfajcbkknaa", sum := "8d36e9108aba86b44ce44274bed72ccfd5a08207fe061b6f80e1719e9509a889", func := "skyway/skywaykeep1.HeapqOrder", spec := "heapqOrder", apart := false, narrowed := true }
def HeapqOrderUptoSaid : Prop := heapqOrderUptoRow.holds Try.pinned (OpenSpec.upto heapqOrderSpec)

/-- 'skywaykeep1.PlaneTriangle', WHERE WHAT IT READS IS OF BULK AT MOST 1048576: true; the input reads as it did. -/
def planeTriangleUptoRow : OpenClaim := { program := "ytaahnfajcbkknaa", sum := "8d36e9108aba86b44ce44274bed72ccfd5a08207fe061b6f80e1719e9509a889", func := "skyway/skywaykeep1.PlaneTriangle", spec := "planeTriangle", inPlace := ["math.sqrt"], apart := false, narrowed := true }
def PlaneTriangleUptoSaid : Prop := planeTriangleUptoRow.holds Try.pinned (OpenSpec.upto planeTriangleSpec)

/-- 'skywaykeep1.PlaneVectors', WHERE WHAT IT READS IS OF BULK AT MOST 1048576: true; the input reads as it did. -/
def planeVectorsUptoRow : OpenClaim := { program := "ytaahnfajcbkknaa", sum := "8d36e9108aba86b44ce44274bed72ccfd5a08207fe061b6f80e1719e9509a889", func := "skyway/skywaykeep1.PlaneVectors", spec := "planeVectors", inPlace := ["math.sqrt"], apart := false, narrowed := true }
def PlaneVectorsUptoSaid : Prop := planeVectorsUptoRow.holds Try.pinned (OpenSpec.upto planeVectorsSpec)

/-- 'skywaykeep1.FlyBetween', WHERE WHAT IT READS IS OF BULK AT MOST 1048576: true; the input reads as it did. -/
def flyBetweenUptoRow : OpenClaim := { program := "ytaahnfajcbkknaa", sum := "8d36e9108aba86b44ce44274bed72ccfd5a08207fe061b6f80e1719e9509a889", func := "skyway/skywaykeep1.FlyBetween", spec := "flyBetween", apart := false, narrowed := true }
def FlyBetweenUptoSaid : Prop := flyBetweenUptoRow.holds Try.pinned (OpenSpec.upto flyBetweenSpec)

/-- 'skywaykeep1.PlaneTurns', WHERE WHAT IT READS IS OF BULK AT MOST 1048576: true; the input reads as it did. -/
def planeTurnsUptoRow : OpenClaim := { program := "ytaahnfajcbkknaa", sum := "8d36e9108aba86b44ce44274bed72ccfd5a08207fe061b6f80e1719e9509a889", func := "skyway/skywaykeep1.PlaneTurns", spec := "planeTurns", inPlace := ["math.sqrt"], apart := false, narrowed := true }
def PlaneTurnsUptoSaid : Prop := planeTurnsUptoRow.holds Try.pinned (OpenSpec.upto planeTurnsSpec)

/-- 'skywaykeep1.PlaneWay', WHERE WHAT IT READS IS OF BULK AT MOST 1048576: true; the input reads as it did. -/
def planeWayUptoRow : OpenClaim := { program := "ytaahnfajcbkknaa", sum := "8d36e9108aba86b44ce44274bed72ccfd5a08207fe061b6f80e1719e9509a889", func := "skyway/skywaykeep1.PlaneWay", spec := "planeWay", inPlace := ["math.sqrt"], apart := false, narrowed := true }
def PlaneWayUptoSaid : Prop := planeWayUptoRow.holds Try.pinned (OpenSpec.upto planeWaySpec)

/-- 'skywaykeep1.FlyShifts', WHERE WHAT IT READS IS OF BULK AT MOST 1048576: true; the input reads as it did. -/
def flyShiftsUptoRow : OpenClaim := { program := "ytaahnfajcbkknaa", sum := "8d36e9108aba86b44ce44274bed72ccfd5a08207fe061b6f80e1719e9509a889", func := "skyway/skywaykeep1.FlyShifts", spec := "flyShifts", apart := false, narrowed := true }
def FlyShiftsUptoSaid : Prop := flyShiftsUptoRow.holds Try.pinned (OpenSpec.upto flyShiftsSpec)

/-- 'skywaykeep1.NumSame', WHERE WHAT IT READS IS OF BULK AT MOST 1048576: true; the input reads as it did. -/
def numSameUptoRow : OpenClaim := { program := "ytaahnfajcbkknaa", sum := "8d36e9108aba86b44ce44274bed72ccfd5a08207fe061b6f80e1719e9509a889", func := "skyway/skywaykeep1.NumSame", spec := "numSame", named := ["math/bits.divideError", "math/bits.overflowError"], apart := false, narrowed := true }
def NumSameUptoSaid : Prop := numSameUptoRow.holds Try.pinned (OpenSpec.upto numSameSpec)

/-- 'skywaykeep1.PolygonCommon', WHERE WHAT IT READS IS OF BULK AT MOST 1048576: true; the input reads as it did. -/
def polygonCommonUptoRow : OpenClaim := { program := "ytaahnfajcbkknaa", sum := "8d36e9108aba86b44ce44274bed72ccfd5a08207fe061b6f80e1719e9509a889", func := "skyway/skywaykeep1.PolygonCommon", spec := "polygonCommon", apart := false, narrowed := true }
def PolygonCommonUptoSaid : Prop := polygonCommonUptoRow.holds Try.pinned (OpenSpec.upto polygonCommonSpec)

/-- 'skywaykeep1.FlyProfile', WHERE WHAT IT READS IS OF BULK AT MOST 1048576: true; the input reads as it did. -/
def flyProfileUptoRow : OpenClaim := { program := "ytaahnfajcbkknaa", sum := "8d36e9108aba86b44ce44274bed72ccfd5a08207fe061b6f80e1719e9509a889", func := "skyway/skywaykeep1.FlyProfile", spec := "flyProfile", apart := false, narrowed := true }
def FlyProfileUptoSaid : Prop := flyProfileUptoRow.holds Try.pinned (OpenSpec.upto flyProfileSpec)

end Rows
end Go.Proofs.Ytaahnfajcbkknaa
