/-
  NARROWER THAN 'FOR EVERY INPUT', by the rows' own cells (each row's printed sentence says how): AngleCircle: laid · AngleSums: laid · AngleTurns: laid · AngleTurned: laid · AngleBack: laid · WindBounds: laid · WindLegs: laid · WindAt: laid.
  DERIVED. THE GIVEN ROWS OF THIS SEAT. 8 by the template 'for every input the law returns true; each argument reads behind the call as it read before'; 0 by the template 'total and deterministic' (their statements: YthpbpdobghceeaaDoorTotals.lean).
  GIVEN WITH THE SEED: the statements are not yours to turn. If you find one false, say at which input.
  Laid BY PROGRAM, IN A SANDBOX (cutbox-rows.mjs): the forced cells as the released guide's own fill.sh prints them over the translation baca786aafe866aa… (all of the seat's roots in one cut). By AI agents, Wed Nov 11 2026. No macro, syntax, notation, axiom, sorry.
-/
import Derived.Test.YthpbpdobghceeaaDoorChecked
import GoSem.Claim
import GoSem.ClaimJoined
import GoSem.ClaimMapViews
import Derived.JoinedTies
import Derived.KernelRfl
namespace Go.Proofs.YthpbpdobghceeaaDoor
/- THE CELL 'sum', in the pinned program and in every row, IS THE sha256 OF THE DUMP (.gsa) THAT YthpbpdobghceeaaDoorProg.lean LOADS. Nothing in Lean hashes anything: it is a label: what it is worth is what the hold of that sum in a sandbox is worth. -/
noncomputable def Tryd.pinned : Pinned := { name := "ythpbpdobghceeaadoor", sum := "baca786aafe866aae2029003cfbdd6bd5f2a7c719857a2703d851a440d83f428", checked := Tryd.checked }
namespace Rows
def none {H : Type} : Left H := { results := [], args := [] }

/- WHAT THE LISTED PACKAGE-LEVEL VARIABLES READ AS WHEN THE CALL BEGINS. Each datum BY PROGRAM (the guide's laid-datum.mjs) off the statement by which the dump's own 'gosem.cut.vars' lays the variable. In a bare row this is a premise. The card (YthpbpdobghceeaaDoorCards.lean) ties it to the program's text. -/
def laid_math_sin {H : Type} : DataW H := .agg [.lit (.float .f64 4460209587652500685), .lit (.float .f64 13716528389658582877), .lit (.float .f64 4523617212962785441), .lit (.float .f64 13774824197404483331), .lit (.float .f64 4575957461383575504), .lit (.float .f64 13818544856648471880)]
def laid_math_cos {H : Type} : DataW H := .agg [.lit (.float .f64 13666448263388469915), .lit (.float .f64 4477121864728985349), .lit (.float .f64 13732177093698800582), .lit (.float .f64 4537941361668146421), .lit (.float .f64 13787419979223748497), .lit (.float .f64 4586165620538955083)]
def laid_math_mPi4 {H : Type} : DataW H := .agg [.lit (.int .u64 1), .lit (.int .u64 5040379952546458195), .lit (.int .u64 17892431488136887169), .lit (.int .u64 13169980181085364355), .lit (.int .u64 18204331823439776451), .lit (.int .u64 7946843935494350272), .lit (.int .u64 905889640498799673), .lit (.int .u64 18175356263134875261), .lit (.int .u64 15061281708168349961), .lit (.int .u64 15220161563773041794), .lit (.int .u64 8296664548579374057), .lit (.int .u64 4109744767560208502), .lit (.int .u64 4607516669194743839), .lit (.int .u64 16023283104648321598), .lit (.int .u64 15739233654134936430), .lit (.int .u64 11424645774684705882), .lit (.int .u64 16883842788696515318), .lit (.int .u64 8795094592981902804), .lit (.int .u64 15561835991111744016), .lit (.int .u64 12395701187267450711)]

/-- 'skywaykeep1.AngleCircle': WHATEVER THE INPUT: true; the input reads as it did. -/
def angleCircleSpec : ChangeSpec := { name := "angleCircle", fn := fun _ => fun
  | [d] => { results := [.lit (.bool true)], args := [d] }
  | _ => none }
def angleCircleRow : OpenClaim := { program := "ythpbpdobghceeaadoor", sum := "baca786aafe866aae2029003cfbdd6bd5f2a7c719857a2703d851a440d83f428", func := "skyway/skywaykeep1.AngleCircle", spec := "angleCircle", inPlace := ["math.Float64bits", "math.Float64frombits", "math/bits.Add64"], named := ["math._cos", "math._sin", "math.mPi4"], apart := false, laid := [("math._sin", laid_math_sin), ("math._cos", laid_math_cos), ("math.mPi4", laid_math_mPi4)] }
def AngleCircleSaid : Prop := angleCircleRow.holds Tryd.pinned (OpenSpec.ofChange angleCircleSpec)

/-- ITS FALSE NEIGHBOUR: 'it returns false'. Refute it at one input. -/
def angleCircleWrong : ChangeSpec := { name := "angleCircle", fn := fun _ => fun
  | [d] => { results := [.lit (.bool false)], args := [d] }
  | _ => none }
def AngleCircleWrongFalsely : Prop := angleCircleRow.holds Tryd.pinned (OpenSpec.ofChange angleCircleWrong)

/-- 'skywaykeep1.AngleSums': WHATEVER THE INPUT: true; the input reads as it did. -/
def angleSumsSpec : ChangeSpec := { name := "angleSums", fn := fun _ => fun
  | [d1, d2] => { results := [.lit (.bool true)], args := [d1, d2] }
  | _ => none }
def angleSumsRow : OpenClaim := { program := "ythpbpdobghceeaadoor", sum := "baca786aafe866aae2029003cfbdd6bd5f2a7c719857a2703d851a440d83f428", func := "skyway/skywaykeep1.AngleSums", spec := "angleSums", inPlace := ["math.Float64bits", "math.Float64frombits", "math/bits.Add64"], named := ["math._cos", "math._sin", "math.mPi4"], apart := false, laid := [("math._sin", laid_math_sin), ("math._cos", laid_math_cos), ("math.mPi4", laid_math_mPi4)] }
def AngleSumsSaid : Prop := angleSumsRow.holds Tryd.pinned (OpenSpec.ofChange angleSumsSpec)

/-- ITS FALSE NEIGHBOUR: 'it returns false'. Refute it at one input. -/
def angleSumsWrong : ChangeSpec := { name := "angleSums", fn := fun _ => fun
  | [d1, d2] => { results := [.lit (.bool false)], args := [d1, d2] }
  | _ => none }
def AngleSumsWrongFalsely : Prop := angleSumsRow.holds Tryd.pinned (OpenSpec.ofChange angleSumsWrong)

/-- 'skywaykeep1.AngleTurns': WHATEVER THE INPUT: true; the input reads as it did. -/
def angleTurnsSpec : ChangeSpec := { name := "angleTurns", fn := fun _ => fun
  | [d1, d2] => { results := [.lit (.bool true)], args := [d1, d2] }
  | _ => none }
def angleTurnsRow : OpenClaim := { program := "ythpbpdobghceeaadoor", sum := "baca786aafe866aae2029003cfbdd6bd5f2a7c719857a2703d851a440d83f428", func := "skyway/skywaykeep1.AngleTurns", spec := "angleTurns", inPlace := ["math.Float64bits", "math.Float64frombits", "math/bits.Add64"], named := ["math._cos", "math._sin", "math.mPi4"], apart := false, laid := [("math._sin", laid_math_sin), ("math._cos", laid_math_cos), ("math.mPi4", laid_math_mPi4)] }
def AngleTurnsSaid : Prop := angleTurnsRow.holds Tryd.pinned (OpenSpec.ofChange angleTurnsSpec)

/-- ITS FALSE NEIGHBOUR: 'it returns false'. Refute it at one input. -/
def angleTurnsWrong : ChangeSpec := { name := "angleTurns", fn := fun _ => fun
  | [d1, d2] => { results := [.lit (.bool false)], args := [d1, d2] }
  | _ => none }
def AngleTurnsWrongFalsely : Prop := angleTurnsRow.holds Tryd.pinned (OpenSpec.ofChange angleTurnsWrong)

/-- 'skywaykeep1.AngleTurned': WHATEVER THE INPUT: true; the input reads as it did. -/
def angleTurnedSpec : ChangeSpec := { name := "angleTurned", fn := fun _ => fun
  | [d] => { results := [.lit (.bool true)], args := [d] }
  | _ => none }
def angleTurnedRow : OpenClaim := { program := "ythpbpdobghceeaadoor", sum := "baca786aafe866aae2029003cfbdd6bd5f2a7c719857a2703d851a440d83f428", func := "skyway/skywaykeep1.AngleTurned", spec := "angleTurned", inPlace := ["math.Float64bits", "math.Float64frombits", "math/bits.Add64", "math.archFloor", "math.archTrunc"], named := ["math._cos", "math._sin", "math.mPi4"], apart := false, laid := [("math._sin", laid_math_sin), ("math._cos", laid_math_cos), ("math.mPi4", laid_math_mPi4)] }
def AngleTurnedSaid : Prop := angleTurnedRow.holds Tryd.pinned (OpenSpec.ofChange angleTurnedSpec)

/-- ITS FALSE NEIGHBOUR: 'it returns false'. Refute it at one input. -/
def angleTurnedWrong : ChangeSpec := { name := "angleTurned", fn := fun _ => fun
  | [d] => { results := [.lit (.bool false)], args := [d] }
  | _ => none }
def AngleTurnedWrongFalsely : Prop := angleTurnedRow.holds Tryd.pinned (OpenSpec.ofChange angleTurnedWrong)

/-- 'skywaykeep1.AngleBack': WHATEVER THE INPUT: true; the input reads as it did. -/
def angleBackSpec : ChangeSpec := { name := "angleBack", fn := fun _ => fun
  | [d1, d2] => { results := [.lit (.bool true)], args := [d1, d2] }
  | _ => none }
def angleBackRow : OpenClaim := { program := "ythpbpdobghceeaadoor", sum := "baca786aafe866aae2029003cfbdd6bd5f2a7c719857a2703d851a440d83f428", func := "skyway/skywaykeep1.AngleBack", spec := "angleBack", inPlace := ["math.Float64bits", "math.Float64frombits", "math/bits.Add64", "math.archFloor", "math.archTrunc", "math.sqrt"], named := ["math._cos", "math._sin", "math.mPi4"], apart := false, laid := [("math._sin", laid_math_sin), ("math._cos", laid_math_cos), ("math.mPi4", laid_math_mPi4)] }
def AngleBackSaid : Prop := angleBackRow.holds Tryd.pinned (OpenSpec.ofChange angleBackSpec)

/-- ITS FALSE NEIGHBOUR: 'it returns false'. Refute it at one input. -/
def angleBackWrong : ChangeSpec := { name := "angleBack", fn := fun _ => fun
  | [d1, d2] => { results := [.lit (.bool false)], args := [d1, d2] }
  | _ => none }
def AngleBackWrongFalsely : Prop := angleBackRow.holds Tryd.pinned (OpenSpec.ofChange angleBackWrong)

/-- 'skywaykeep1.WindBounds': WHATEVER THE INPUT: true; the input reads as it did. -/
def windBoundsSpec : ChangeSpec := { name := "windBounds", fn := fun _ => fun
  | [d1, d2, d3] => { results := [.lit (.bool true)], args := [d1, d2, d3] }
  | _ => none }
def windBoundsRow : OpenClaim := { program := "ythpbpdobghceeaadoor", sum := "baca786aafe866aae2029003cfbdd6bd5f2a7c719857a2703d851a440d83f428", func := "skyway/skywaykeep1.WindBounds", spec := "windBounds", inPlace := ["math.Float64bits", "math.Float64frombits", "math/bits.Add64", "math.archFloor", "math.archTrunc", "math.sqrt"], named := ["math._cos", "math._sin", "math.mPi4"], apart := false, laid := [("math._sin", laid_math_sin), ("math._cos", laid_math_cos), ("math.mPi4", laid_math_mPi4)] }
def WindBoundsSaid : Prop := windBoundsRow.holds Tryd.pinned (OpenSpec.ofChange windBoundsSpec)

/-- ITS FALSE NEIGHBOUR: 'it returns false'. Refute it at one input. -/
def windBoundsWrong : ChangeSpec := { name := "windBounds", fn := fun _ => fun
  | [d1, d2, d3] => { results := [.lit (.bool false)], args := [d1, d2, d3] }
  | _ => none }
def WindBoundsWrongFalsely : Prop := windBoundsRow.holds Tryd.pinned (OpenSpec.ofChange windBoundsWrong)

/-- 'skywaykeep1.WindLegs': WHATEVER THE INPUT: true; the input reads as it did. -/
def windLegsSpec : ChangeSpec := { name := "windLegs", fn := fun _ => fun
  | [d1, d2, d3, d4, d5] => { results := [.lit (.bool true)], args := [d1, d2, d3, d4, d5] }
  | _ => none }
def windLegsRow : OpenClaim := { program := "ythpbpdobghceeaadoor", sum := "baca786aafe866aae2029003cfbdd6bd5f2a7c719857a2703d851a440d83f428", func := "skyway/skywaykeep1.WindLegs", spec := "windLegs", inPlace := ["math.Float64bits", "math.Float64frombits", "math/bits.Add64", "math.archFloor", "math.archTrunc", "math.sqrt"], named := ["math._cos", "math._sin", "math.mPi4"], apart := false, laid := [("math._sin", laid_math_sin), ("math._cos", laid_math_cos), ("math.mPi4", laid_math_mPi4)] }
def WindLegsSaid : Prop := windLegsRow.holds Tryd.pinned (OpenSpec.ofChange windLegsSpec)

/-- ITS FALSE NEIGHBOUR: 'it returns false'. Refute it at one input. -/
def windLegsWrong : ChangeSpec := { name := "windLegs", fn := fun _ => fun
  | [d1, d2, d3, d4, d5] => { results := [.lit (.bool false)], args := [d1, d2, d3, d4, d5] }
  | _ => none }
def WindLegsWrongFalsely : Prop := windLegsRow.holds Tryd.pinned (OpenSpec.ofChange windLegsWrong)

/-- 'skywaykeep1.WindAt': WHATEVER THE INPUT: true; the input reads as it did. -/
def windAtSpec : ChangeSpec := { name := "windAt", fn := fun _ => fun
  | [d1, d2] => { results := [.lit (.bool true)], args := [d1, d2] }
  | _ => none }
def windAtRow : OpenClaim := { program := "ythpbpdobghceeaadoor", sum := "baca786aafe866aae2029003cfbdd6bd5f2a7c719857a2703d851a440d83f428", func := "skyway/skywaykeep1.WindAt", spec := "windAt", inPlace := ["math.Float64bits", "math.Float64frombits", "math/bits.Add64", "math.archFloor", "math.archTrunc", "math.sqrt"], named := ["math._cos", "math._sin", "math.mPi4"], apart := false, laid := [("math._sin", laid_math_sin), ("math._cos", laid_math_cos), ("math.mPi4", laid_math_mPi4)] }
def WindAtSaid : Prop := windAtRow.holds Tryd.pinned (OpenSpec.ofChange windAtSpec)

/-- ITS FALSE NEIGHBOUR: 'it returns false'. Refute it at one input. -/
def windAtWrong : ChangeSpec := { name := "windAt", fn := fun _ => fun
  | [d1, d2] => { results := [.lit (.bool false)], args := [d1, d2] }
  | _ => none }
def WindAtWrongFalsely : Prop := windAtRow.holds Tryd.pinned (OpenSpec.ofChange windAtWrong)

/- THE SECOND FORM. 'bulk': how many values and letters a reading holds, each counted each time it is reached (what is shared counts as often as it is met; a slice's spare places count too). A statement '..UptoSaid' is the law's where the arguments, and the package variables that the reading takes, are together of bulk at most 1048576: NARROWER than '..Said'. Prove '..Said' where nothing that the law and all that it calls make is longer than what came in: it says more and counts as full. Else prove '..UptoSaid'. A law counts once. -/
mutual
def uptoBulk {H : Type} : DataW H → Nat
  | .lit (.string bytes) => bytes.length + 1
  | .lit _ => 1
  | .nil => 1
  | .ptr d => uptoBulk d + 1
  | .slice elems spare => uptoBulkAll elems + uptoBulkAll spare + 1
  | .agg parts => uptoBulkAll parts + 1
  | .iface _ d => uptoBulk d + 1
  | .map entries => uptoBulkEntries entries + 1
  | .held _ => 1
def uptoBulkAll {H : Type} : List (DataW H) → Nat
  | [] => 0
  | d :: r => uptoBulk d + uptoBulkAll r
def uptoBulkEntries {H : Type} : List (Lit × DataW H) → Nat
  | [] => 0
  | x :: r => uptoBulkEntry x + uptoBulkEntries r
def uptoBulkEntry {H : Type} : Lit × DataW H → Nat
  | (.string bytes, d) => bytes.length + uptoBulk d + 1
  | (_, d) => uptoBulk d + 1
 end
def uptoSmall : (H : Type) → List (DataW H) → Bool := fun _ ds => decide (uptoBulkAll ds ≤ 1048576)
def OpenSpec.upto (s : _root_.Go.ChangeSpec) : _root_.Go.OpenSpec := { _root_.Go.OpenSpec.ofChange s with cond := some uptoSmall }

/-- 'skywaykeep1.AngleCircle', WHERE WHAT IT READS IS OF BULK AT MOST 1048576: true; the input reads as it did. -/
def angleCircleUptoRow : OpenClaim := { program := "ythpbpdobghceeaadoor", sum := "baca786aafe866aae2029003cfbdd6bd5f2a7c719857a2703d851a440d83f428", func := "skyway/skywaykeep1.AngleCircle", spec := "angleCircle", inPlace := ["math.Float64bits", "math.Float64frombits", "math/bits.Add64"], named := ["math._cos", "math._sin", "math.mPi4"], apart := false, laid := [("math._sin", laid_math_sin), ("math._cos", laid_math_cos), ("math.mPi4", laid_math_mPi4)], narrowed := true }
def AngleCircleUptoSaid : Prop := angleCircleUptoRow.holds Tryd.pinned (OpenSpec.upto angleCircleSpec)

/-- 'skywaykeep1.AngleSums', WHERE WHAT IT READS IS OF BULK AT MOST 1048576: true; the input reads as it did. -/
def angleSumsUptoRow : OpenClaim := { program := "ythpbpdobghceeaadoor", sum := "baca786aafe866aae2029003cfbdd6bd5f2a7c719857a2703d851a440d83f428", func := "skyway/skywaykeep1.AngleSums", spec := "angleSums", inPlace := ["math.Float64bits", "math.Float64frombits", "math/bits.Add64"], named := ["math._cos", "math._sin", "math.mPi4"], apart := false, laid := [("math._sin", laid_math_sin), ("math._cos", laid_math_cos), ("math.mPi4", laid_math_mPi4)], narrowed := true }
def AngleSumsUptoSaid : Prop := angleSumsUptoRow.holds Tryd.pinned (OpenSpec.upto angleSumsSpec)

/-- 'skywaykeep1.AngleTurns', WHERE WHAT IT READS IS OF BULK AT MOST 1048576: true; the input reads as it did. -/
def angleTurnsUptoRow : OpenClaim := { program := "ythpbpdobghceeaadoor", sum := "baca786aafe866aae2029003cfbdd6bd5f2a7c719857a2703d851a440d83f428", func := "skyway/skywaykeep1.AngleTurns", spec := "angleTurns", inPlace := ["math.Float64bits", "math.Float64frombits", "math/bits.Add64"], named := ["math._cos", "math._sin", "math.mPi4"], apart := false, laid := [("math._sin", laid_math_sin), ("math._cos", laid_math_cos), ("math.mPi4", laid_math_mPi4)], narrowed := true }
def AngleTurnsUptoSaid : Prop := angleTurnsUptoRow.holds Tryd.pinned (OpenSpec.upto angleTurnsSpec)

/-- 'skywaykeep1.AngleTurned', WHERE WHAT IT READS IS OF BULK AT MOST 1048576: true; the input reads as it did. -/
def angleTurnedUptoRow : OpenClaim := { program := "ythpbpdobghceeaadoor", sum := "baca786aafe866aae2029003cfbdd6bd5f2a7c719857a2703d851a440d83f428", func := "skyway/skywaykeep1.AngleTurned", spec := "angleTurned", inPlace := ["math.Float64bits", "math.Float64frombits", "math/bits.Add64", "math.archFloor", "math.archTrunc"], named := ["math._cos", "math._sin", "math.mPi4"], apart := false, laid := [("math._sin", laid_math_sin), ("math._cos", laid_math_cos), ("math.mPi4", laid_math_mPi4)], narrowed := true }
def AngleTurnedUptoSaid : Prop := angleTurnedUptoRow.holds Tryd.pinned (OpenSpec.upto angleTurnedSpec)

/-- 'skywaykeep1.AngleBack', WHERE WHAT IT READS IS OF BULK AT MOST 1048576: true; the input reads as it did. -/
def angleBackUptoRow : OpenClaim := { program := "ythpbpdobghceeaadoor", sum := "baca786aafe866aae2029003cfbdd6bd5f2a7c719857a2703d851a440d83f428", func := "skyway/skywaykeep1.AngleBack", spec := "angleBack", inPlace := ["math.Float64bits", "math.Float64frombits", "math/bits.Add64", "math.archFloor", "math.archTrunc", "math.sqrt"], named := ["math._cos", "math._sin", "math.mPi4"], apart := false, laid := [("math._sin", laid_math_sin), ("math._cos", laid_math_cos), ("math.mPi4", laid_math_mPi4)], narrowed := true }
def AngleBackUptoSaid : Prop := angleBackUptoRow.holds Tryd.pinned (OpenSpec.upto angleBackSpec)

/-- 'skywaykeep1.WindBounds', WHERE WHAT IT READS IS OF BULK AT MOST 1048576: true; the input reads as it did. -/
def windBoundsUptoRow : OpenClaim := { program := "ythpbpdobghceeaadoor", sum := "baca786aafe866aae2029003cfbdd6bd5f2a7c719857a2703d851a440d83f428", func := "skyway/skywaykeep1.WindBounds", spec := "windBounds", inPlace := ["math.Float64bits", "math.Float64frombits", "math/bits.Add64", "math.archFloor", "math.archTrunc", "math.sqrt"], named := ["math._cos", "math._sin", "math.mPi4"], apart := false, laid := [("math._sin", laid_math_sin), ("math._cos", laid_math_cos), ("math.mPi4", laid_math_mPi4)], narrowed := true }
def WindBoundsUptoSaid : Prop := windBoundsUptoRow.holds Tryd.pinned (OpenSpec.upto windBoundsSpec)

/-- 'skywaykeep1.WindLegs', WHERE WHAT IT READS IS OF BULK AT MOST 1048576: true; the input reads as it did. -/
def windLegsUptoRow : OpenClaim := { program := "ythpbpdobghceeaadoor", sum := "baca786aafe866aae2029003cfbdd6bd5f2a7c719857a2703d851a440d83f428", func := "skyway/skywaykeep1.WindLegs", spec := "windLegs", inPlace := ["math.Float64bits", "math.Float64frombits", "math/bits.Add64", "math.archFloor", "math.archTrunc", "math.sqrt"], named := ["math._cos", "math._sin", "math.mPi4"], apart := false, laid := [("math._sin", laid_math_sin), ("math._cos", laid_math_cos), ("math.mPi4", laid_math_mPi4)], narrowed := true }
def WindLegsUptoSaid : Prop := windLegsUptoRow.holds Tryd.pinned (OpenSpec.upto windLegsSpec)

/-- 'skywaykeep1.WindAt', WHERE WHAT IT READS IS OF BULK AT MOST 1048576: true; the input reads as it did. -/
def windAtUptoRow : OpenClaim := { program := "ythpbpdobghceeaadoor", sum := "baca786aafe866aae2029003cfbdd6bd5f2a7c719857a2703d851a440d83f428", func := "skyway/skywaykeep1.WindAt", spec := "windAt", inPlace := ["math.Float64bits", "math.Float64frombits", "math/bits.Add64", "math.archFloor", "math.archTrunc", "math.sqrt"], named := ["math._cos", "math._sin", "math.mPi4"], apart := false, laid := [("math._sin", laid_math_sin), ("math._cos", laid_math_cos), ("math.mPi4", laid_math_mPi4)], narrowed := true }
def WindAtUptoSaid : Prop := windAtUptoRow.holds Tryd.pinned (OpenSpec.upto windAtSpec)

end Rows
end Go.Proofs.YthpbpdobghceeaaDoor
