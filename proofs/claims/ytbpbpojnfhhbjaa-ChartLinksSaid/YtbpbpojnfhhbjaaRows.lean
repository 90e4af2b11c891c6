/-
  No cell of these rows narrows 'for every input' (looked for: loops, veiled, ifaces, maps, wideKeys, modest, calm, conditions, laid).
  DERIVED. THE GIVEN ROWS OF THIS SEAT. 12 by the template 'for every input the law returns true; each argument reads behind the call as it read before'; 0 by the template 'total and deterministic' (their statements: YtbpbpojnfhhbjaaTotals.lean).
  GIVEN WITH THE SEED: the statements are not yours to turn. If you find one false, say at which input.
  Laid BY PROGRAM, IN A SANDBOX (cutbox-rows.mjs): the forced cells as the released guide's own fill.sh prints them over the translation e465e86884d0d70b… (all of the seat's roots in one cut). By AI agents, Wed Nov 11 2026. No macro, syntax, notation, axiom, sorry.
-/
import Derived.Test.YtbpbpojnfhhbjaaChecked
import GoSem.Claim
import GoSem.ClaimJoined
import GoSem.ClaimMapViews
import Derived.JoinedTies
import Derived.KernelRfl
namespace Go.Proofs.Ytbpbpojnfhhbjaa
/- THE CELL 'sum', in the pinned program and in every row, IS THE sha256 OF THE DUMP (.gsa) THAT YtbpbpojnfhhbjaaProg.lean LOADS. Nothing in Lean hashes anything: it is a label: what it is worth is what the hold of that sum in a sandbox is worth. -/
noncomputable def Try.pinned : Pinned := { name := "ytbpbpojnfhhbjaa", sum := "e465e86884d0d70b5422742a375e785671b67ce171e8b3eb9e177beff440a370", checked := Try.checked }
namespace Rows
def none {H : Type} : Left H := { results := [], args := [] }

/-- 'skywaykeep1.ChartBetween': WHATEVER THE INPUT: true; the input reads as it did. -/
def chartBetweenSpec : ChangeSpec := { name := "chartBetween", fn := fun _ => fun
  | [d1, d2, d3, d4] => { results := [.lit (.bool true)], args := [d1, d2, d3, d4] }
  | _ => none }
def chartBetweenRow : OpenClaim := { program := "ytbpbpojnfhhbjaa", sum := "e465e86884d0d70b5422742a375e785671b67ce171e8b3eb9e177beff440a370", func := "skyway/skywaykeep1.ChartBetween", spec := "chartBetween", inPlace := ["math.sqrt"], unfollowed := true, recurses := true, apart := false }
def ChartBetweenSaid : Prop := chartBetweenRow.holds Try.pinned (OpenSpec.ofChange chartBetweenSpec)

/-- ITS FALSE NEIGHBOUR: 'it returns false'. Refute it at one input. -/
def chartBetweenWrong : ChangeSpec := { name := "chartBetween", fn := fun _ => fun
  | [d1, d2, d3, d4] => { results := [.lit (.bool false)], args := [d1, d2, d3, d4] }
  | _ => none }
def ChartBetweenWrongFalsely : Prop := chartBetweenRow.holds Try.pinned (OpenSpec.ofChange chartBetweenWrong)

/-- 'skywaykeep1.ChartLengths': WHATEVER THE INPUT: true; the input reads as it did. -/
def chartLengthsSpec : ChangeSpec := { name := "chartLengths", fn := fun _ => fun
  | [d1, d2, d3] => { results := [.lit (.bool true)], args := [d1, d2, d3] }
  | _ => none }
def chartLengthsRow : OpenClaim := { program := "ytbpbpojnfhhbjaa", sum := "e465e86884d0d70b5422742a375e785671b67ce171e8b3eb9e177beff440a370", func := "skyway/skywaykeep1.ChartLengths", spec := "chartLengths", inPlace := ["math.sqrt"], unfollowed := true, recurses := true, apart := false }
def ChartLengthsSaid : Prop := chartLengthsRow.holds Try.pinned (OpenSpec.ofChange chartLengthsSpec)

/-- ITS FALSE NEIGHBOUR: 'it returns false'. Refute it at one input. -/
def chartLengthsWrong : ChangeSpec := { name := "chartLengths", fn := fun _ => fun
  | [d1, d2, d3] => { results := [.lit (.bool false)], args := [d1, d2, d3] }
  | _ => none }
def ChartLengthsWrongFalsely : Prop := chartLengthsRow.holds Try.pinned (OpenSpec.ofChange chartLengthsWrong)

/-- 'skywaykeep1.ChartNear': WHATEVER THE INPUT: true; the input reads as it did. -/
def chartNearSpec : ChangeSpec := { name := "chartNear", fn := fun _ => fun
  | [d1, d2] => { results := [.lit (.bool true)], args := [d1, d2] }
  | _ => none }
def chartNearRow : OpenClaim := { program := "ytbpbpojnfhhbjaa", sum := "e465e86884d0d70b5422742a375e785671b67ce171e8b3eb9e177beff440a370", func := "skyway/skywaykeep1.ChartNear", spec := "chartNear", inPlace := ["math.sqrt"], unfollowed := true, recurses := true, apart := false }
def ChartNearSaid : Prop := chartNearRow.holds Try.pinned (OpenSpec.ofChange chartNearSpec)

/-- ITS FALSE NEIGHBOUR: 'it returns false'. Refute it at one input. -/
def chartNearWrong : ChangeSpec := { name := "chartNear", fn := fun _ => fun
  | [d1, d2] => { results := [.lit (.bool false)], args := [d1, d2] }
  | _ => none }
def ChartNearWrongFalsely : Prop := chartNearRow.holds Try.pinned (OpenSpec.ofChange chartNearWrong)

/-- 'skywaykeep1.ChartLinks': WHATEVER THE INPUT: true; the input reads as it did. -/
def chartLinksSpec : ChangeSpec := { name := "chartLinks", fn := fun _ => fun
  | [d1, d2] => { results := [.lit (.bool true)], args := [d1, d2] }
  | _ => none }
def chartLinksRow : OpenClaim := { program := "ytbpbpojnfhhbjaa", sum := "e465e86884d0d70b5422742a375e785671b67ce171e8b3eb9e177beff440a370", func := "skyway/skywaykeep1.ChartLinks", spec := "chartLinks", inPlace := ["math.sqrt"], unfollowed := true, recurses := true, apart := false }
def ChartLinksSaid : Prop := chartLinksRow.holds Try.pinned (OpenSpec.ofChange chartLinksSpec)

/-- ITS FALSE NEIGHBOUR: 'it returns false'. Refute it at one input. -/
def chartLinksWrong : ChangeSpec := { name := "chartLinks", fn := fun _ => fun
  | [d1, d2] => { results := [.lit (.bool false)], args := [d1, d2] }
  | _ => none }
def ChartLinksWrongFalsely : Prop := chartLinksRow.holds Try.pinned (OpenSpec.ofChange chartLinksWrong)

/-- 'skywaykeep1.RouteDirect': WHATEVER THE INPUT: true; the input reads as it did. -/
def routeDirectSpec : ChangeSpec := { name := "routeDirect", fn := fun _ => fun
  | [d1, d2] => { results := [.lit (.bool true)], args := [d1, d2] }
  | _ => none }
def routeDirectRow : OpenClaim := { program := "ytbpbpojnfhhbjaa", sum := "e465e86884d0d70b5422742a375e785671b67ce171e8b3eb9e177beff440a370", func := "skyway/skywaykeep1.RouteDirect", spec := "routeDirect", inPlace := ["math.sqrt"], unfollowed := true, recurses := true, apart := false }
def RouteDirectSaid : Prop := routeDirectRow.holds Try.pinned (OpenSpec.ofChange routeDirectSpec)

/-- ITS FALSE NEIGHBOUR: 'it returns false'. Refute it at one input. -/
def routeDirectWrong : ChangeSpec := { name := "routeDirect", fn := fun _ => fun
  | [d1, d2] => { results := [.lit (.bool false)], args := [d1, d2] }
  | _ => none }
def RouteDirectWrongFalsely : Prop := routeDirectRow.holds Try.pinned (OpenSpec.ofChange routeDirectWrong)

/-- 'skywaykeep1.RouteLength': WHATEVER THE INPUT: true; the input reads as it did. -/
def routeLengthSpec : ChangeSpec := { name := "routeLength", fn := fun _ => fun
  | [d1, d2] => { results := [.lit (.bool true)], args := [d1, d2] }
  | _ => none }
def routeLengthRow : OpenClaim := { program := "ytbpbpojnfhhbjaa", sum := "e465e86884d0d70b5422742a375e785671b67ce171e8b3eb9e177beff440a370", func := "skyway/skywaykeep1.RouteLength", spec := "routeLength", inPlace := ["math.sqrt"], unfollowed := true, recurses := true, apart := false }
def RouteLengthSaid : Prop := routeLengthRow.holds Try.pinned (OpenSpec.ofChange routeLengthSpec)

/-- ITS FALSE NEIGHBOUR: 'it returns false'. Refute it at one input. -/
def routeLengthWrong : ChangeSpec := { name := "routeLength", fn := fun _ => fun
  | [d1, d2] => { results := [.lit (.bool false)], args := [d1, d2] }
  | _ => none }
def RouteLengthWrongFalsely : Prop := routeLengthRow.holds Try.pinned (OpenSpec.ofChange routeLengthWrong)

/-- 'skywaykeep1.RouteCrossed': WHATEVER THE INPUT: true; the input reads as it did. -/
def routeCrossedSpec : ChangeSpec := { name := "routeCrossed", fn := fun _ => fun
  | [d1, d2] => { results := [.lit (.bool true)], args := [d1, d2] }
  | _ => none }
def routeCrossedRow : OpenClaim := { program := "ytbpbpojnfhhbjaa", sum := "e465e86884d0d70b5422742a375e785671b67ce171e8b3eb9e177beff440a370", func := "skyway/skywaykeep1.RouteCrossed", spec := "routeCrossed", inPlace := ["math.sqrt"], unfollowed := true, recurses := true, apart := false }
def RouteCrossedSaid : Prop := routeCrossedRow.holds Try.pinned (OpenSpec.ofChange routeCrossedSpec)

/-- ITS FALSE NEIGHBOUR: 'it returns false'. Refute it at one input. -/
def routeCrossedWrong : ChangeSpec := { name := "routeCrossed", fn := fun _ => fun
  | [d1, d2] => { results := [.lit (.bool false)], args := [d1, d2] }
  | _ => none }
def RouteCrossedWrongFalsely : Prop := routeCrossedRow.holds Try.pinned (OpenSpec.ofChange routeCrossedWrong)

/-- 'skywaykeep1.FlyClosed': WHATEVER THE INPUT: true; the input reads as it did. -/
def flyClosedSpec : ChangeSpec := { name := "flyClosed", fn := fun _ => fun
  | [d1, d2, d3] => { results := [.lit (.bool true)], args := [d1, d2, d3] }
  | _ => none }
def flyClosedRow : OpenClaim := { program := "ytbpbpojnfhhbjaa", sum := "e465e86884d0d70b5422742a375e785671b67ce171e8b3eb9e177beff440a370", func := "skyway/skywaykeep1.FlyClosed", spec := "flyClosed", unfollowed := true, recurses := true, apart := false }
def FlyClosedSaid : Prop := flyClosedRow.holds Try.pinned (OpenSpec.ofChange flyClosedSpec)

/-- ITS FALSE NEIGHBOUR: 'it returns false'. Refute it at one input. -/
def flyClosedWrong : ChangeSpec := { name := "flyClosed", fn := fun _ => fun
  | [d1, d2, d3] => { results := [.lit (.bool false)], args := [d1, d2, d3] }
  | _ => none }
def FlyClosedWrongFalsely : Prop := flyClosedRow.holds Try.pinned (OpenSpec.ofChange flyClosedWrong)

/-- 'skywaykeep1.TubeAll': WHATEVER THE INPUT: true; the input reads as it did. -/
def tubeAllSpec : ChangeSpec := { name := "tubeAll", fn := fun _ => fun
  | [d] => { results := [.lit (.bool true)], args := [d] }
  | _ => none }
def tubeAllRow : OpenClaim := { program := "ytbpbpojnfhhbjaa", sum := "e465e86884d0d70b5422742a375e785671b67ce171e8b3eb9e177beff440a370", func := "skyway/skywaykeep1.TubeAll", spec := "tubeAll", unfollowed := true, recurses := true, apart := false }
def TubeAllSaid : Prop := tubeAllRow.holds Try.pinned (OpenSpec.ofChange tubeAllSpec)

/-- ITS FALSE NEIGHBOUR: 'it returns false'. Refute it at one input. -/
def tubeAllWrong : ChangeSpec := { name := "tubeAll", fn := fun _ => fun
  | [d] => { results := [.lit (.bool false)], args := [d] }
  | _ => none }
def TubeAllWrongFalsely : Prop := tubeAllRow.holds Try.pinned (OpenSpec.ofChange tubeAllWrong)

/-- 'skywaykeep1.TubeInside': WHATEVER THE INPUT: true; the input reads as it did. -/
def tubeInsideSpec : ChangeSpec := { name := "tubeInside", fn := fun _ => fun
  | [d1, d2, d3, d4, d5] => { results := [.lit (.bool true)], args := [d1, d2, d3, d4, d5] }
  | _ => none }
def tubeInsideRow : OpenClaim := { program := "ytbpbpojnfhhbjaa", sum := "e465e86884d0d70b5422742a375e785671b67ce171e8b3eb9e177beff440a370", func := "skyway/skywaykeep1.TubeInside", spec := "tubeInside", inPlace := ["math.sqrt"], unfollowed := true, recurses := true, apart := false }
def TubeInsideSaid : Prop := tubeInsideRow.holds Try.pinned (OpenSpec.ofChange tubeInsideSpec)

/-- ITS FALSE NEIGHBOUR: 'it returns false'. Refute it at one input. -/
def tubeInsideWrong : ChangeSpec := { name := "tubeInside", fn := fun _ => fun
  | [d1, d2, d3, d4, d5] => { results := [.lit (.bool false)], args := [d1, d2, d3, d4, d5] }
  | _ => none }
def TubeInsideWrongFalsely : Prop := tubeInsideRow.holds Try.pinned (OpenSpec.ofChange tubeInsideWrong)

/-- 'skywaykeep1.TubeWidens': WHATEVER THE INPUT: true; the input reads as it did. -/
def tubeWidensSpec : ChangeSpec := { name := "tubeWidens", fn := fun _ => fun
  | [d1, d2, d3, d4, d5, d6] => { results := [.lit (.bool true)], args := [d1, d2, d3, d4, d5, d6] }
  | _ => none }
def tubeWidensRow : OpenClaim := { program := "ytbpbpojnfhhbjaa", sum := "e465e86884d0d70b5422742a375e785671b67ce171e8b3eb9e177beff440a370", func := "skyway/skywaykeep1.TubeWidens", spec := "tubeWidens", inPlace := ["math.sqrt"], unfollowed := true, recurses := true, apart := false }
def TubeWidensSaid : Prop := tubeWidensRow.holds Try.pinned (OpenSpec.ofChange tubeWidensSpec)

/-- ITS FALSE NEIGHBOUR: 'it returns false'. Refute it at one input. -/
def tubeWidensWrong : ChangeSpec := { name := "tubeWidens", fn := fun _ => fun
  | [d1, d2, d3, d4, d5, d6] => { results := [.lit (.bool false)], args := [d1, d2, d3, d4, d5, d6] }
  | _ => none }
def TubeWidensWrongFalsely : Prop := tubeWidensRow.holds Try.pinned (OpenSpec.ofChange tubeWidensWrong)

/-- 'skywaykeep1.ProbeFirst': WHATEVER THE INPUT: true; the input reads as it did. -/
def probeFirstSpec : ChangeSpec := { name := "probeFirst", fn := fun _ => fun
  | [d1, d2, d3, d4] => { results := [.lit (.bool true)], args := [d1, d2, d3, d4] }
  | _ => none }
def probeFirstRow : OpenClaim := { program := "ytbpbpojnfhhbjaa", sum := "e465e86884d0d70b5422742a375e785671b67ce171e8b3eb9e177beff440a370", func := "skyway/skywaykeep1.ProbeFirst", spec := "probeFirst", inPlace := ["math.sqrt"], unfollowed := true, recurses := true, apart := false }
def ProbeFirstSaid : Prop := probeFirstRow.holds Try.pinned (OpenSpec.ofChange probeFirstSpec)

/-- ITS FALSE NEIGHBOUR: 'it returns false'. Refute it at one input. -/
def probeFirstWrong : ChangeSpec := { name := "probeFirst", fn := fun _ => fun
  | [d1, d2, d3, d4] => { results := [.lit (.bool false)], args := [d1, d2, d3, d4] }
  | _ => none }
def ProbeFirstWrongFalsely : Prop := probeFirstRow.holds Try.pinned (OpenSpec.ofChange probeFirstWrong)

/- THE SECOND FORM. 'bulk': how many values and letters a reading holds, each counted each time it is reached (what is shared counts as often as it is met; a slice's spare places count too). A statement '..UptoSaid' is the law's where the arguments, and the package variables that the reading takes, are together of bulk at most 1048576: NARROWER than '..Said'. Prove '..Said' where nothing that the law and all that it calls make is longer than what came in: it says more and counts as full. Else prove '..UptoSaid'. A law counts once. -/
mutual
def uptoBulk {H : Type} : DataW H → Nat
  | .lit (.string bytes) => bytes.length + 1
  | .lit _ => 1
  | .nil => 1
  | .ptr d => uptoBulk d + 1
  | .slice elems spare => uptoBulkAll elems + uptoBulkAll spare + 1
  | .agg parts => uptoBulkAll parts + 1
  | .iface _ d => uptoBulk d + 1
  | .map entries => uptoBulkEntries entries + 1
  | .held _ => 1
def uptoBulkAll {H : Type} : List (DataW H) → Nat
  | [] => 0
  | d :: r => uptoBulk d + uptoBulkAll r
def uptoBulkEntries {H : Type} : List (Lit × DataW H) → Nat
  | [] => 0
  | x :: r => uptoBulkEntry x + uptoBulkEntries r
def uptoBulkEntry {H : Type} : Lit × DataW H → Nat
  | (.string bytes, d) => bytes.length + uptoBulk d + 1
  | (_, d) => uptoBulk d + 1
 end
def uptoSmall : (H : Type) → List (DataW H) → Bool := fun _ ds => decide (uptoBulkAll ds ≤ 1048576)
def OpenSpec.upto (s : _root_.Go.ChangeSpec) : _root_.Go.OpenSpec := { _root_.Go.OpenSpec.ofChange s with cond := some uptoSmall }

/-- 'skywaykeep1.ChartBetween', WHERE WHAT IT READS IS OF BULK AT MOST 1048576: true; the input reads as it did. -/
def chartBetweenUptoRow : OpenClaim := { program := "ytbpbpojnfhhbjaa", sum := "e465e86884d0d70b5422742a375e785671b67ce171e8b3eb9e177beff440a370", func := "skyway/skywaykeep1.ChartBetween", spec := "chartBetween", inPlace := ["math.sqrt"], unfollowed := true, recurses := true, apart := false, narrowed := true }
def ChartBetweenUptoSaid : Prop := chartBetweenUptoRow.holds Try.pinned (OpenSpec.upto chartBetweenSpec)

/-- 'skywaykeep1.ChartLengths', WHERE WHAT IT READS IS OF BULK AT MOST 1048576: true; the input reads as it did. -/
def chartLengthsUptoRow : OpenClaim := { program := "ytbpbpojnfhhbjaa", sum := "e465e86884d0d70b5422742a375e785671b67ce171e8b3eb9e177beff440a370", func := "skyway/skywaykeep1.ChartLengths", spec := "chartLengths", inPlace := ["math.sqrt"], unfollowed := true, recurses := true, apart := false, narrowed := true }
def ChartLengthsUptoSaid : Prop := chartLengthsUptoRow.holds Try.pinned (OpenSpec.upto chartLengthsSpec)

/-- 'skywaykeep1.ChartNear', WHERE WHAT IT READS IS OF BULK AT MOST 1048576: true; the input reads as it did. -/
def chartNearUptoRow : OpenClaim := { program := "ytbpbpojnfhhbjaa", sum := "e465e86884d0d70b5422742a375e785671b67ce171e8b3eb9e177beff440a370", func := "skyway/skywaykeep1.ChartNear", spec := "chartNear", inPlace := ["math.sqrt"], unfollowed := true, recurses := true, apart := false, narrowed := true }
def ChartNearUptoSaid : Prop := chartNearUptoRow.holds Try.pinned (OpenSpec.upto chartNearSpec)

/-- 'skywaykeep1.ChartLinks', WHERE WHAT IT READS IS OF BULK AT MOST 1048576: true; the input reads as it did. -/
def chartLinksUptoRow : OpenClaim := { program := "ytbpbpojnfhhbjaa", sum := "e465e86884d0d70b5422742a375e785671b67ce171e8b3eb9e177beff440a370", func := "skyway/skywaykeep1.ChartLinks", spec := "chartLinks", inPlace := ["math.sqrt"], unfollowed := true, recurses := true, apart := false, narrowed := true }
def ChartLinksUptoSaid : Prop := chartLinksUptoRow.holds Try.pinned (OpenSpec.upto chartLinksSpec)

/-- 'skywaykeep1.RouteDirect', WHERE WHAT IT READS IS OF BULK AT MOST 1048576: true; the input reads as it did. -/
def routeDirectUptoRow : OpenClaim := { program := "ytbpbpojnfhhbjaa", sum := "e465e86884d0d70b5422742a375e785671b67ce171e8b3eb9e177beff440a370", func := "skyway/skywaykeep1.RouteDirect", spec := "routeDirect", inPlace := ["math.sqrt"], unfollowed := true, recurses := true, apart := false, narrowed := true }
def RouteDirectUptoSaid : Prop := routeDirectUptoRow.holds Try.pinned (OpenSpec.upto routeDirectSpec)

/-- 'skywaykeep1.RouteLength', WHERE WHAT IT READS IS OF BULK AT MOST 1048576: true; the input reads as it did. -/
def routeLengthUptoRow : OpenClaim := { program := "ytbpbpojnfhhbjaa", sum := "e465e86884d0d70b5422742a375e785671b67ce171e8b3eb9e177beff440a370", func := "skyway/skywaykeep1.RouteLength", spec := "routeLength", inPlace := ["math.sqrt"], unfollowed := true, recurses := true, apart := false, narrowed := true }
def RouteLengthUptoSaid : Prop := routeLengthUptoRow.holds Try.pinned (OpenSpec.upto routeLengthSpec)

/-- 'skywaykeep1.RouteCrossed', WHERE WHAT IT READS IS OF BULK AT MOST 1048576: true; the input reads as it did. -/
def routeCrossedUptoRow : OpenClaim := { program := "ytbpbpojnfhhbjaa", sum := "e465e86884d0d70b5422742a375e785671b67ce171e8b3eb9e177beff440a370", func := "skyway/skywaykeep1.RouteCrossed", spec := "routeCrossed", inPlace := ["math.sqrt"], unfollowed := true, recurses := true, apart := false, narrowed := true }
def RouteCrossedUptoSaid : Prop := routeCrossedUptoRow.holds Try.pinned (OpenSpec.upto routeCrossedSpec)

/-- 'skywaykeep1.FlyClosed', WHERE WHAT IT READS IS OF BULK AT MOST 1048576: true; the input reads as it did. -/
def flyClosedUptoRow : OpenClaim := { program := "ytbpbpojnfhhbjaa", sum := "e465e86884d0d70b5422742a375e785671b67ce171e8b3eb9e177beff440a370", func := "skyway/skywaykeep1.FlyClosed", spec := "flyClosed", unfollowed := true, recurses := true, apart := false, narrowed := true }
def FlyClosedUptoSaid : Prop := flyClosedUptoRow.holds Try.pinned (OpenSpec.upto flyClosedSpec)

/-- 'skywaykeep1.TubeAll', WHERE WHAT IT READS IS OF BULK AT MOST 1048576: true; the input reads as it did. -/
def tubeAllUptoRow : OpenClaim := { program := "ytbpbpojnfhhbjaa", sum := "e465e86884d0d70b5422742a375e785671b67ce171e8b3eb9e177beff440a370", func := "skyway/skywaykeep1.TubeAll", spec := "tubeAll", unfollowed := true, recurses := true, apart := false, narrowed := true }
def TubeAllUptoSaid : Prop := tubeAllUptoRow.holds Try.pinned (OpenSpec.upto tubeAllSpec)

/-- 'skywaykeep1.TubeInside', WHERE WHAT IT READS IS OF BULK AT MOST 1048576: true; the input reads as it did. -/
def tubeInsideUptoRow : OpenClaim := { program := "ytbpbpojnfhhbjaa", sum := "e465e86884d0d70b5422742a375e785671b67ce171e8b3eb9e177beff440a370", func := "skyway/skywaykeep1.TubeInside", spec := "tubeInside", inPlace := ["math.sqrt"], unfollowed := true, recurses := true, apart := false, narrowed := true }
def TubeInsideUptoSaid : Prop := tubeInsideUptoRow.holds Try.pinned (OpenSpec.upto tubeInsideSpec)

/-- 'skywaykeep1.TubeWidens', WHERE WHAT IT READS IS OF BULK AT MOST 1048576: true; the input reads as it did. -/
def tubeWidensUptoRow : OpenClaim := { program := "ytbpbpojnfhhbjaa", sum := "e465e86884d0d70b5422742a375e785671b67ce171e8b3eb9e177beff440a370", func := "skyway/skywaykeep1.TubeWidens", spec := "tubeWidens", inPlace := ["math.sqrt"], unfollowed := true, recurses := true, apart := false, narrowed := true }
def TubeWidensUptoSaid : Prop := tubeWidensUptoRow.holds Try.pinned (OpenSpec.upto tubeWidensSpec)

/-- 'skywaykeep1.ProbeFirst', WHERE WHAT IT READS IS OF BULK AT MOST 1048576: true; the input reads as it did. -/
def probeFirstUptoRow : OpenClaim := { program := "ytbpbpojnfhhbjaa", sum := "e465e86884d0d70b5422742a375e785671b67ce171e8b3eb9e177beff440a370", func := "skyway/skywaykeep1.ProbeFirst", spec := "probeFirst", inPlace := ["math.sqrt"], unfollowed := true, recurses := true, apart := false, narrowed := true }
def ProbeFirstUptoSaid : Prop := probeFirstUptoRow.holds Try.pinned (OpenSpec.upto probeFirstSpec)

end Rows
end Go.Proofs.Ytbpbpojnfhhbjaa
