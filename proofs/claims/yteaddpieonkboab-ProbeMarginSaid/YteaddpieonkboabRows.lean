/-
  No cell of these rows narrows 'for every input' (looked for: loops, veiled, ifaces, maps, wideKeys, modest, calm, conditions, laid).
  DERIVED. THE GIVEN ROWS OF THIS SEAT. 12 by the template 'for every input the law returns true; each argument reads behind the call as it read before'; 0 by the template 'total and deterministic' (their statements: YteaddpieonkboabTotals.lean).
  GIVEN WITH THE SEED: the statements are not yours to turn. If you find one false, say at which input.
  Laid BY PROGRAM, IN A SANDBOX (cutbox-rows.mjs): the forced cells as the released guide's own fill.sh prints them over the translation 8519a5a7958f7150… (all of the seat's roots in one cut). By AI agents, Wed Nov 11 2026. No macro, syntax, notation, axiom, sorry.
-/
import Derived.Test.YteaddpieonkboabChecked
import GoSem.Claim
import GoSem.ClaimJoined
import GoSem.ClaimMapViews
import Derived.JoinedTies
import Derived.KernelRfl
namespace Go.Proofs.Yteaddpieonkboab
/- THE CELL 'sum', in the pinned program and in every row, IS THE sha256 OF THE DUMP (.gsa) THAT YteaddpieonkboabProg.lean LOADS. Nothing in Lean hashes anything: it is a label: what it is worth is what the hold of that sum in a sandbox is worth. -/
noncomputable def Try.pinned : Pinned := { name := "yteaddpieonkboab", sum := "8519a5a7958f7150541519ac1a70552b7ee2d6cefa7c812434dbad1901fcc1a5", checked := Try.checked }
namespace Rows
def none {H : Type} : Left H := { results := [], args := [] }

/-- 'skywaykeep1.TubeBetween': WHATEVER THE INPUT: true; the input reads as it did. -/
def tubeBetweenSpec : ChangeSpec := { name := "tubeBetween", fn := fun _ => fun
  | [d1, d2] => { results := [.lit (.bool true)], args := [d1, d2] }
  | _ => none }
def tubeBetweenRow : OpenClaim := { program := "yteaddpieonkboab", sum := "8519a5a7958f7150541519ac1a70552b7ee2d6cefa7c812434dbad1901fcc1a5", func := "skyway/skywaykeep1.TubeBetween", spec := "tubeBetween", unfollowed := true, recurses := true, apart := false }
def TubeBetweenSaid : Prop := tubeBetweenRow.holds Try.pinned (OpenSpec.ofChange tubeBetweenSpec)

/-- ITS FALSE NEIGHBOUR: 'it returns false'. Refute it at one input. -/
def tubeBetweenWrong : ChangeSpec := { name := "tubeBetween", fn := fun _ => fun
  | [d1, d2] => { results := [.lit (.bool false)], args := [d1, d2] }
  | _ => none }
def TubeBetweenWrongFalsely : Prop := tubeBetweenRow.holds Try.pinned (OpenSpec.ofChange tubeBetweenWrong)

/-- 'skywaykeep1.TubeAll': WHATEVER THE INPUT: true; the input reads as it did. -/
def tubeAllSpec : ChangeSpec := { name := "tubeAll", fn := fun _ => fun
  | [d] => { results := [.lit (.bool true)], args := [d] }
  | _ => none }
def tubeAllRow : OpenClaim := { program := "yteaddpieonkboab", sum := "8519a5a7958f7150541519ac1a70552b7ee2d6cefa7c812434dbad1901fcc1a5", func := "skyway/skywaykeep1.TubeAll", spec := "tubeAll", unfollowed := true, recurses := true, apart := false }
def TubeAllSaid : Prop := tubeAllRow.holds Try.pinned (OpenSpec.ofChange tubeAllSpec)

/-- ITS FALSE NEIGHBOUR: 'it returns false'. Refute it at one input. -/
def tubeAllWrong : ChangeSpec := { name := "tubeAll", fn := fun _ => fun
  | [d] => { results := [.lit (.bool false)], args := [d] }
  | _ => none }
def TubeAllWrongFalsely : Prop := tubeAllRow.holds Try.pinned (OpenSpec.ofChange tubeAllWrong)

/-- 'skywaykeep1.TubeCuts': WHATEVER THE INPUT: true; the input reads as it did. -/
def tubeCutsSpec : ChangeSpec := { name := "tubeCuts", fn := fun _ => fun
  | [d1, d2, d3, d4] => { results := [.lit (.bool true)], args := [d1, d2, d3, d4] }
  | _ => none }
def tubeCutsRow : OpenClaim := { program := "yteaddpieonkboab", sum := "8519a5a7958f7150541519ac1a70552b7ee2d6cefa7c812434dbad1901fcc1a5", func := "skyway/skywaykeep1.TubeCuts", spec := "tubeCuts", unfollowed := true, recurses := true, apart := false }
def TubeCutsSaid : Prop := tubeCutsRow.holds Try.pinned (OpenSpec.ofChange tubeCutsSpec)

/-- ITS FALSE NEIGHBOUR: 'it returns false'. Refute it at one input. -/
def tubeCutsWrong : ChangeSpec := { name := "tubeCuts", fn := fun _ => fun
  | [d1, d2, d3, d4] => { results := [.lit (.bool false)], args := [d1, d2, d3, d4] }
  | _ => none }
def TubeCutsWrongFalsely : Prop := tubeCutsRow.holds Try.pinned (OpenSpec.ofChange tubeCutsWrong)

/-- 'skywaykeep1.TubeShifts': WHATEVER THE INPUT: true; the input reads as it did. -/
def tubeShiftsSpec : ChangeSpec := { name := "tubeShifts", fn := fun _ => fun
  | [d1, d2, d3, d4] => { results := [.lit (.bool true)], args := [d1, d2, d3, d4] }
  | _ => none }
def tubeShiftsRow : OpenClaim := { program := "yteaddpieonkboab", sum := "8519a5a7958f7150541519ac1a70552b7ee2d6cefa7c812434dbad1901fcc1a5", func := "skyway/skywaykeep1.TubeShifts", spec := "tubeShifts", apart := false }
def TubeShiftsSaid : Prop := tubeShiftsRow.holds Try.pinned (OpenSpec.ofChange tubeShiftsSpec)

/-- ITS FALSE NEIGHBOUR: 'it returns false'. Refute it at one input. -/
def tubeShiftsWrong : ChangeSpec := { name := "tubeShifts", fn := fun _ => fun
  | [d1, d2, d3, d4] => { results := [.lit (.bool false)], args := [d1, d2, d3, d4] }
  | _ => none }
def TubeShiftsWrongFalsely : Prop := tubeShiftsRow.holds Try.pinned (OpenSpec.ofChange tubeShiftsWrong)

/-- 'skywaykeep1.TubeNominal': WHATEVER THE INPUT: true; the input reads as it did. -/
def tubeNominalSpec : ChangeSpec := { name := "tubeNominal", fn := fun _ => fun
  | [d1, d2, d3, d4, d5, d6] => { results := [.lit (.bool true)], args := [d1, d2, d3, d4, d5, d6] }
  | _ => none }
def tubeNominalRow : OpenClaim := { program := "yteaddpieonkboab", sum := "8519a5a7958f7150541519ac1a70552b7ee2d6cefa7c812434dbad1901fcc1a5", func := "skyway/skywaykeep1.TubeNominal", spec := "tubeNominal", apart := false }
def TubeNominalSaid : Prop := tubeNominalRow.holds Try.pinned (OpenSpec.ofChange tubeNominalSpec)

/-- ITS FALSE NEIGHBOUR: 'it returns false'. Refute it at one input. -/
def tubeNominalWrong : ChangeSpec := { name := "tubeNominal", fn := fun _ => fun
  | [d1, d2, d3, d4, d5, d6] => { results := [.lit (.bool false)], args := [d1, d2, d3, d4, d5, d6] }
  | _ => none }
def TubeNominalWrongFalsely : Prop := tubeNominalRow.holds Try.pinned (OpenSpec.ofChange tubeNominalWrong)

/-- 'skywaykeep1.TubeInside': WHATEVER THE INPUT: true; the input reads as it did. -/
def tubeInsideSpec : ChangeSpec := { name := "tubeInside", fn := fun _ => fun
  | [d1, d2, d3, d4, d5] => { results := [.lit (.bool true)], args := [d1, d2, d3, d4, d5] }
  | _ => none }
def tubeInsideRow : OpenClaim := { program := "yteaddpieonkboab", sum := "8519a5a7958f7150541519ac1a70552b7ee2d6cefa7c812434dbad1901fcc1a5", func := "skyway/skywaykeep1.TubeInside", spec := "tubeInside", inPlace := ["math.sqrt"], unfollowed := true, recurses := true, apart := false }
def TubeInsideSaid : Prop := tubeInsideRow.holds Try.pinned (OpenSpec.ofChange tubeInsideSpec)

/-- ITS FALSE NEIGHBOUR: 'it returns false'. Refute it at one input. -/
def tubeInsideWrong : ChangeSpec := { name := "tubeInside", fn := fun _ => fun
  | [d1, d2, d3, d4, d5] => { results := [.lit (.bool false)], args := [d1, d2, d3, d4, d5] }
  | _ => none }
def TubeInsideWrongFalsely : Prop := tubeInsideRow.holds Try.pinned (OpenSpec.ofChange tubeInsideWrong)

/-- 'skywaykeep1.TubeWidens': WHATEVER THE INPUT: true; the input reads as it did. -/
def tubeWidensSpec : ChangeSpec := { name := "tubeWidens", fn := fun _ => fun
  | [d1, d2, d3, d4, d5, d6] => { results := [.lit (.bool true)], args := [d1, d2, d3, d4, d5, d6] }
  | _ => none }
def tubeWidensRow : OpenClaim := { program := "yteaddpieonkboab", sum := "8519a5a7958f7150541519ac1a70552b7ee2d6cefa7c812434dbad1901fcc1a5", func := "skyway/skywaykeep1.TubeWidens", spec := "tubeWidens", inPlace := ["math.sqrt"], unfollowed := true, recurses := true, apart := false }
def TubeWidensSaid : Prop := tubeWidensRow.holds Try.pinned (OpenSpec.ofChange tubeWidensSpec)

/-- ITS FALSE NEIGHBOUR: 'it returns false'. Refute it at one input. -/
def tubeWidensWrong : ChangeSpec := { name := "tubeWidens", fn := fun _ => fun
  | [d1, d2, d3, d4, d5, d6] => { results := [.lit (.bool false)], args := [d1, d2, d3, d4, d5, d6] }
  | _ => none }
def TubeWidensWrongFalsely : Prop := tubeWidensRow.holds Try.pinned (OpenSpec.ofChange tubeWidensWrong)

/-- 'skywaykeep1.ProbeSafe': WHATEVER THE INPUT: true; the input reads as it did. -/
def probeSafeSpec : ChangeSpec := { name := "probeSafe", fn := fun _ => fun
  | [d1, d2, d3, d4, d5, d6, d7] => { results := [.lit (.bool true)], args := [d1, d2, d3, d4, d5, d6, d7] }
  | _ => none }
def probeSafeRow : OpenClaim := { program := "yteaddpieonkboab", sum := "8519a5a7958f7150541519ac1a70552b7ee2d6cefa7c812434dbad1901fcc1a5", func := "skyway/skywaykeep1.ProbeSafe", spec := "probeSafe", inPlace := ["math.sqrt"], apart := false }
def ProbeSafeSaid : Prop := probeSafeRow.holds Try.pinned (OpenSpec.ofChange probeSafeSpec)

/-- ITS FALSE NEIGHBOUR: 'it returns false'. Refute it at one input. -/
def probeSafeWrong : ChangeSpec := { name := "probeSafe", fn := fun _ => fun
  | [d1, d2, d3, d4, d5, d6, d7] => { results := [.lit (.bool false)], args := [d1, d2, d3, d4, d5, d6, d7] }
  | _ => none }
def ProbeSafeWrongFalsely : Prop := probeSafeRow.holds Try.pinned (OpenSpec.ofChange probeSafeWrong)

/-- 'skywaykeep1.ProbeOrder': WHATEVER THE INPUT: true; the input reads as it did. -/
def probeOrderSpec : ChangeSpec := { name := "probeOrder", fn := fun _ => fun
  | [d1, d2, d3] => { results := [.lit (.bool true)], args := [d1, d2, d3] }
  | _ => none }
def probeOrderRow : OpenClaim := { program := "yteaddpieonkboab", sum := "8519a5a7958f7150541519ac1a70552b7ee2d6cefa7c812434dbad1901fcc1a5", func := "skyway/skywaykeep1.ProbeOrder", spec := "probeOrder", inPlace := ["math.sqrt"], apart := false }
def ProbeOrderSaid : Prop := probeOrderRow.holds Try.pinned (OpenSpec.ofChange probeOrderSpec)

/-- ITS FALSE NEIGHBOUR: 'it returns false'. Refute it at one input. -/
def probeOrderWrong : ChangeSpec := { name := "probeOrder", fn := fun _ => fun
  | [d1, d2, d3] => { results := [.lit (.bool false)], args := [d1, d2, d3] }
  | _ => none }
def ProbeOrderWrongFalsely : Prop := probeOrderRow.holds Try.pinned (OpenSpec.ofChange probeOrderWrong)

/-- 'skywaykeep1.ProbeMargin': WHATEVER THE INPUT: true; the input reads as it did. -/
def probeMarginSpec : ChangeSpec := { name := "probeMargin", fn := fun _ => fun
  | [d1, d2] => { results := [.lit (.bool true)], args := [d1, d2] }
  | _ => none }
def probeMarginRow : OpenClaim := { program := "yteaddpieonkboab", sum := "8519a5a7958f7150541519ac1a70552b7ee2d6cefa7c812434dbad1901fcc1a5", func := "skyway/skywaykeep1.ProbeMargin", spec := "probeMargin", inPlace := ["math.sqrt"], unfollowed := true, recurses := true, apart := false }
def ProbeMarginSaid : Prop := probeMarginRow.holds Try.pinned (OpenSpec.ofChange probeMarginSpec)

/-- ITS FALSE NEIGHBOUR: 'it returns false'. Refute it at one input. -/
def probeMarginWrong : ChangeSpec := { name := "probeMargin", fn := fun _ => fun
  | [d1, d2] => { results := [.lit (.bool false)], args := [d1, d2] }
  | _ => none }
def ProbeMarginWrongFalsely : Prop := probeMarginRow.holds Try.pinned (OpenSpec.ofChange probeMarginWrong)

/-- 'skywaykeep1.ProbeHeights': WHATEVER THE INPUT: true; the input reads as it did. -/
def probeHeightsSpec : ChangeSpec := { name := "probeHeights", fn := fun _ => fun
  | [d1, d2, d3] => { results := [.lit (.bool true)], args := [d1, d2, d3] }
  | _ => none }
def probeHeightsRow : OpenClaim := { program := "yteaddpieonkboab", sum := "8519a5a7958f7150541519ac1a70552b7ee2d6cefa7c812434dbad1901fcc1a5", func := "skyway/skywaykeep1.ProbeHeights", spec := "probeHeights", inPlace := ["math.sqrt"], apart := false }
def ProbeHeightsSaid : Prop := probeHeightsRow.holds Try.pinned (OpenSpec.ofChange probeHeightsSpec)

/-- ITS FALSE NEIGHBOUR: 'it returns false'. Refute it at one input. -/
def probeHeightsWrong : ChangeSpec := { name := "probeHeights", fn := fun _ => fun
  | [d1, d2, d3] => { results := [.lit (.bool false)], args := [d1, d2, d3] }
  | _ => none }
def ProbeHeightsWrongFalsely : Prop := probeHeightsRow.holds Try.pinned (OpenSpec.ofChange probeHeightsWrong)

/-- 'skywaykeep1.ProbeFirst': WHATEVER THE INPUT: true; the input reads as it did. -/
def probeFirstSpec : ChangeSpec := { name := "probeFirst", fn := fun _ => fun
  | [d1, d2, d3, d4] => { results := [.lit (.bool true)], args := [d1, d2, d3, d4] }
  | _ => none }
def probeFirstRow : OpenClaim := { program := "yteaddpieonkboab", sum := "8519a5a7958f7150541519ac1a70552b7ee2d6cefa7c812434dbad1901fcc1a5", func := "skyway/skywaykeep1.ProbeFirst", spec := "probeFirst", inPlace := ["math.sqrt"], unfollowed := true, recurses := true, apart := false }
def ProbeFirstSaid : Prop := probeFirstRow.holds Try.pinned (OpenSpec.ofChange probeFirstSpec)

/-- ITS FALSE NEIGHBOUR: 'it returns false'. Refute it at one input. -/
def probeFirstWrong : ChangeSpec := { name := "probeFirst", fn := fun _ => fun
  | [d1, d2, d3, d4] => { results := [.lit (.bool false)], args := [d1, d2, d3, d4] }
  | _ => none }
def ProbeFirstWrongFalsely : Prop := probeFirstRow.holds Try.pinned (OpenSpec.ofChange probeFirstWrong)

/- THE SECOND FORM. 'bulk': how many values and letters a reading holds, each counted each time it is reached (what is shared counts as often as it is met; a slice's spare places count too). A statement '..UptoSaid' is the law's where the arguments, and the package variables that the reading takes, are together of bulk at most 1048576: NARROWER than '..Said'. Prove '..Said' where nothing that the law and all that it calls make is longer than what came in: it says more and counts as full. Else prove '..UptoSaid'. A law counts once. -/
mutual
def uptoBulk {H : Type} : DataW H → Nat
  | .lit (.string bytes) => bytes.length + 1
  | .lit _ => 1
  | .nil => 1
  | .ptr d => uptoBulk d + 1
  | .slice elems spare => uptoBulkAll elems + uptoBulkAll spare + 1
  | .agg parts => uptoBulkAll parts + 1
  | .iface _ d => uptoBulk d + 1
  | .map entries => uptoBulkEntries entries + 1
  | .held _ => 1
def uptoBulkAll {H : Type} : List (DataW H) → Nat
  | [] => 0
  | d :: r => uptoBulk d + uptoBulkAll r
def uptoBulkEntries {H : Type} : List (Lit × DataW H) → Nat
  | [] => 0
  | x :: r => uptoBulkEntry x + uptoBulkEntries r
def uptoBulkEntry {H : Type} : Lit × DataW H → Nat
  | (.string bytes, d) => bytes.length + uptoBulk d + 1
  | (_, d) => uptoBulk d + 1
 end
def uptoSmall : (H : Type) → List (DataW H) → Bool := fun _ ds => decide (uptoBulkAll ds ≤ 1048576)
def OpenSpec.upto (s : _root_.Go.ChangeSpec) : _root_.Go.OpenSpec := { _root_.Go.OpenSpec.ofChange s with cond := some uptoSmall }

/-- 'skywaykeep1.TubeBetween', WHERE WHAT IT READS IS OF BULK AT MOST 1048576: true; the input reads as it did. -/
def tubeBetweenUptoRow : OpenClaim := { program := "yteaddpieonkboab", sum := "8519a5a7958f7150541519ac1a70552b7ee2d6cefa7c812434dbad1901fcc1a5", func := "skyway/skywaykeep1.TubeBetween", spec := "tubeBetween", unfollowed := true, recurses := true, apart := false, narrowed := true }
def TubeBetweenUptoSaid : Prop := tubeBetweenUptoRow.holds Try.pinned (OpenSpec.upto tubeBetweenSpec)

/-- 'skywaykeep1.TubeAll', WHERE WHAT IT READS IS OF BULK AT MOST 1048576: true; the input reads as it did. -/
def tubeAllUptoRow : OpenClaim := { program := "yteaddpieonkboab", sum := "8519a5a7958f7150541519ac1a70552b7ee2d6cefa7c812434dbad1901fcc1a5", func := "skyway/skywaykeep1.TubeAll", spec := "tubeAll", unfollowed := true, recurses := true, apart := false, narrowed := true }
def TubeAllUptoSaid : Prop := tubeAllUptoRow.holds Try.pinned (OpenSpec.upto tubeAllSpec)

/-- 'skywaykeep1.TubeCuts', WHERE WHAT IT READS IS OF BULK AT MOST 1048576: true; the input reads as it did. -/
def tubeCutsUptoRow : OpenClaim := { program := "yteaddpieonkboab", sum := "8519a5a7958f7150541519ac1a70552b7ee2d6cefa7c812434dbad1901fcc1a5", func := "skyway/skywaykeep1.TubeCuts", spec := "tubeCuts", unfollowed := true, recurses := true, apart := false, narrowed := true }
def TubeCutsUptoSaid : Prop := tubeCutsUptoRow.holds Try.pinned (OpenSpec.upto tubeCutsSpec)

/-- 'skywaykeep1.TubeShifts', WHERE WHAT IT READS IS OF BULK AT MOST 1048576: true; the input reads as it did. -/
def tubeShiftsUptoRow : OpenClaim := { program := "yteaddpieonkboab", sum := "8519a5a7958f7150541519ac1a70552b7ee2d6cefa7c812434dbad1901fcc1a5", func := "skyway/skywaykeep1.TubeShifts", spec := "tubeShifts", apart := false, narrowed := true }
def TubeShiftsUptoSaid : Prop := tubeShiftsUptoRow.holds Try.pinned (OpenSpec.upto tubeShiftsSpec)

/-- 'skywaykeep1.TubeNominal', WHERE WHAT IT READS IS OF BULK AT MOST 1048576: true; the input reads as it did. -/
def tubeNominalUptoRow : OpenClaim := { program := "yteaddpieonkboab", sum := "8519a5a7958f7150541519ac1a70552b7ee2d6cefa7c812434dbad1901fcc1a5", func := "skyway/skywaykeep1.TubeNominal", spec := "tubeNominal", apart := false, narrowed := true }
def TubeNominalUptoSaid : Prop := tubeNominalUptoRow.holds Try.pinned (OpenSpec.upto tubeNominalSpec)

/-- 'skywaykeep1.TubeInside', WHERE WHAT IT READS IS OF BULK AT MOST 1048576: true; the input reads as it did. -/
def tubeInsideUptoRow : OpenClaim := { program := "yteaddpieonkboab", sum := "8519a5a7958f7150541519ac1a70552b7ee2d6cefa7c812434dbad1901fcc1a5", func := "skyway/skywaykeep1.TubeInside", spec := "tubeInside", inPlace := ["math.sqrt"], unfollowed := true, recurses := true, apart := false, narrowed := true }
def TubeInsideUptoSaid : Prop := tubeInsideUptoRow.holds Try.pinned (OpenSpec.upto tubeInsideSpec)

/-- 'skywaykeep1.TubeWidens', WHERE WHAT IT READS IS OF BULK AT MOST 1048576: true; the input reads as it did. -/
def tubeWidensUptoRow : OpenClaim := { program := "yteaddpieonkboab", sum := "8519a5a7958f7150541519ac1a70552b7ee2d6cefa7c812434dbad1901fcc1a5", func := "skyway/skywaykeep1.TubeWidens", spec := "tubeWidens", inPlace := ["math.sqrt"], unfollowed := true, recurses := true, apart := false, narrowed := true }
def TubeWidensUptoSaid : Prop := tubeWidensUptoRow.holds Try.pinned (OpenSpec.upto tubeWidensSpec)

/-- 'skywaykeep1.ProbeSafe', WHERE WHAT IT READS IS OF BULK AT MOST 1048576: true; the input reads as it did. -/
def probeSafeUptoRow : OpenClaim := { program := "yteaddpieonkboab", sum := "8519a5a7958f7150541519ac1a70552b7ee2d6cefa7c812434dbad1901fcc1a5", func := "skyway/skywaykeep1.ProbeSafe", spec := "probeSafe", inPlace := ["math.sqrt"], apart := false, narrowed := true }
def ProbeSafeUptoSaid : Prop := probeSafeUptoRow.holds Try.pinned (OpenSpec.upto probeSafeSpec)

/-- 'skywaykeep1.ProbeOrder', WHERE WHAT IT READS IS OF BULK AT MOST 1048576: true; the input reads as it did. -/
def probeOrderUptoRow : OpenClaim := { program := "yteaddpieonkboab", sum := "8519a5a7958f7150541519ac1a70552b7ee2d6cefa7c812434dbad1901fcc1a5", func := "skyway/skywaykeep1.ProbeOrder", spec := "probeOrder", inPlace := ["math.sqrt"], apart := false, narrowed := true }
def ProbeOrderUptoSaid : Prop := probeOrderUptoRow.holds Try.pinned (OpenSpec.upto probeOrderSpec)

/-- 'skywaykeep1.ProbeMargin', WHERE WHAT IT READS IS OF BULK AT MOST 1048576: true; the input reads as it did. -/
def probeMarginUptoRow : OpenClaim := { program := "yteaddpieonkboab", sum := "8519a5a7958f7150541519ac1a70552b7ee2d6cefa7c812434dbad1901fcc1a5", func := "skyway/skywaykeep1.ProbeMargin", spec := "probeMargin", inPlace := ["math.sqrt"], unfollowed := true, recurses := true, apart := false, narrowed := true }
def ProbeMarginUptoSaid : Prop := probeMarginUptoRow.holds Try.pinned (OpenSpec.upto probeMarginSpec)

/-- 'skywaykeep1.ProbeHeights', WHERE WHAT IT READS IS OF BULK AT MOST 1048576: true; the input reads as it did. -/
def probeHeightsUptoRow : OpenClaim := { program := "yteaddpieonkboab", sum := "8519a5a7958f7150541519ac1a70552b7ee2d6cefa7c812434dbad1901fcc1a5", func := "skyway/skywaykeep1.ProbeHeights", spec := "probeHeights", inPlace := ["math.sqrt"], apart := false, narrowed := true }
def ProbeHeightsUptoSaid : Prop := probeHeightsUptoRow.holds Try.pinned (OpenSpec.upto probeHeightsSpec)

/-- 'skywaykeep1.ProbeFirst', WHERE WHAT IT READS IS OF BULK AT MOST 1048576: true; the input reads as it did. -/
def probeFirstUptoRow : OpenClaim := { program := "yteaddpieonkboab", sum := "8519a5a7958f7150541519ac1a70552b7ee2d6cefa7c812434dbad1901fcc1a5", func := "skyway/skywaykeep1.ProbeFirst", spec := "probeFirst", inPlace := ["math.sqrt"], unfollowed := true, recurses := true, apart := false, narrowed := true }
def ProbeFirstUptoSaid : Prop := probeFirstUptoRow.holds Try.pinned (OpenSpec.upto probeFirstSpec)

end Rows
end Go.Proofs.Yteaddpieonkboab
