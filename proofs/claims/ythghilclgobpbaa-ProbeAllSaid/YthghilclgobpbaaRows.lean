/-
  No cell of these rows narrows 'for every input' (looked for: loops, veiled, ifaces, maps, wideKeys, modest, calm, conditions, laid).
  DERIVED. THE GIVEN ROWS OF THIS SEAT. 5 by the template 'for every input the law returns true; each argument reads behind the call as it read before'; 0 by the template 'total and deterministic' (their statements: YthghilclgobpbaaTotals.lean).
  GIVEN WITH THE SEED: the statements are not yours to turn. If you find one false, say at which input.
  Laid BY PROGRAM, IN A SANDBOX (cutbox-rows.mjs): the forced cells as the released guide's own fill.sh prints them over the translation 6b0a2939325451cd… (all of the seat's roots in one cut). By AI agents, Wed Nov 11 2026. No macro, syntax, notation, axiom, sorry.
-/
import Derived.Test.YthghilclgobpbaaChecked
import GoSem.Claim
import GoSem.ClaimJoined
import GoSem.ClaimMapViews
import Derived.JoinedTies
import Derived.KernelRfl
namespace Go.Proofs.Ythghilclgobpbaa
/- THE CELL 'sum', in the pinned program and in every row, IS THE sha256 OF THE DUMP (.gsa) THAT YthghilclgobpbaaProg.lean LOADS. Nothing in Lean hashes anything: it is a label: what it is worth is what the hold of that sum in a sandbox is worth. -/
noncomputable def Try.pinned : Pinned := { name := "ythghilclgobpbaa", sum := "6b0a2939325451cda9d916e6fe090e50901ed3e076e919fe29da3859521b5071", checked := Try.checked }
namespace Rows
def none {H : Type} : Left H := { results := [], args := [] }

/-- 'skywaykeep1.HeapqOrder': WHATEVER THE INPUT: true; the input reads as it did. -/
def heapqOrderSpec : ChangeSpec := { name := "heapqOrder", fn := fun _ => fun
  | [d] => { results := [.lit (.bool true)], args := [d] }
  | _ => none }
def heapqOrderRow : OpenClaim := { program := "ythghilclgobpbaa", sum := "6b0a2939325451cda9d916e6fe090e50901ed3e076e919fe29da3859521b5071", func := "skyway/skywaykeep1.HeapqOrder", spec := "heapqOrder", apart := false }
def HeapqOrderSaid : Prop := heapqOrderRow.holds Try.pinned (OpenSpec.ofChange heapqOrderSpec)

/-- ITS FALSE NEIGHBOUR: 'it returns false'. Refute it at one input. -/
def heapqOrderWrong : ChangeSpec := { name := "heapqOrder", fn := fun _ => fun
  | [d] => { results := [.lit (.bool false)], args := [d] }
  | _ => none }
def HeapqOrderWrongFalsely : Prop := heapqOrderRow.holds Try.pinned (OpenSpec.ofChange heapqOrderWrong)

/-- 'skywaykeep1.HeapqAll': WHATEVER THE INPUT: true; the input reads as it did. -/
def heapqAllSpec : ChangeSpec := { name := "heapqAll", fn := fun _ => fun
  | [d1, d2] => { results := [.lit (.bool true)], args := [d1, d2] }
  | _ => none }
def heapqAllRow : OpenClaim := { program := "ythghilclgobpbaa", sum := "6b0a2939325451cda9d916e6fe090e50901ed3e076e919fe29da3859521b5071", func := "skyway/skywaykeep1.HeapqAll", spec := "heapqAll", unfollowed := true, recurses := true, apart := false }
def HeapqAllSaid : Prop := heapqAllRow.holds Try.pinned (OpenSpec.ofChange heapqAllSpec)

/-- ITS FALSE NEIGHBOUR: 'it returns false'. Refute it at one input. -/
def heapqAllWrong : ChangeSpec := { name := "heapqAll", fn := fun _ => fun
  | [d1, d2] => { results := [.lit (.bool false)], args := [d1, d2] }
  | _ => none }
def HeapqAllWrongFalsely : Prop := heapqAllRow.holds Try.pinned (OpenSpec.ofChange heapqAllWrong)

/-- 'skywaykeep1.PolygonOverlap': WHATEVER THE INPUT: true; the input reads as it did. -/
def polygonOverlapSpec : ChangeSpec := { name := "polygonOverlap", fn := fun _ => fun
  | [d1, d2] => { results := [.lit (.bool true)], args := [d1, d2] }
  | _ => none }
def polygonOverlapRow : OpenClaim := { program := "ythghilclgobpbaa", sum := "6b0a2939325451cda9d916e6fe090e50901ed3e076e919fe29da3859521b5071", func := "skyway/skywaykeep1.PolygonOverlap", spec := "polygonOverlap", apart := false }
def PolygonOverlapSaid : Prop := polygonOverlapRow.holds Try.pinned (OpenSpec.ofChange polygonOverlapSpec)

/-- ITS FALSE NEIGHBOUR: 'it returns false'. Refute it at one input. -/
def polygonOverlapWrong : ChangeSpec := { name := "polygonOverlap", fn := fun _ => fun
  | [d1, d2] => { results := [.lit (.bool false)], args := [d1, d2] }
  | _ => none }
def PolygonOverlapWrongFalsely : Prop := polygonOverlapRow.holds Try.pinned (OpenSpec.ofChange polygonOverlapWrong)

/-- 'skywaykeep1.VolumeOverlap': WHATEVER THE INPUT: true; the input reads as it did. -/
def volumeOverlapSpec : ChangeSpec := { name := "volumeOverlap", fn := fun _ => fun
  | [d1, d2] => { results := [.lit (.bool true)], args := [d1, d2] }
  | _ => none }
def volumeOverlapRow : OpenClaim := { program := "ythghilclgobpbaa", sum := "6b0a2939325451cda9d916e6fe090e50901ed3e076e919fe29da3859521b5071", func := "skyway/skywaykeep1.VolumeOverlap", spec := "volumeOverlap", unfollowed := true, recurses := true, apart := false }
def VolumeOverlapSaid : Prop := volumeOverlapRow.holds Try.pinned (OpenSpec.ofChange volumeOverlapSpec)

/-- ITS FALSE NEIGHBOUR: 'it returns false'. Refute it at one input. -/
def volumeOverlapWrong : ChangeSpec := { name := "volumeOverlap", fn := fun _ => fun
  | [d1, d2] => { results := [.lit (.bool false)], args := [d1, d2] }
  | _ => none }
def VolumeOverlapWrongFalsely : Prop := volumeOverlapRow.holds Try.pinned (OpenSpec.ofChange volumeOverlapWrong)

/-- 'skywaykeep1.ProbeAll': WHATEVER THE INPUT: true; the input reads as it did. -/
def probeAllSpec : ChangeSpec := { name := "probeAll", fn := fun _ => fun
  | [d1, d2] => { results := [.lit (.bool true)], args := [d1, d2] }
  | _ => none }
def probeAllRow : OpenClaim := { program := "ythghilclgobpbaa", sum := "6b0a2939325451cda9d916e6fe090e50901ed3e076e919fe29da3859521b5071", func := "skyway/skywaykeep1.ProbeAll", spec := "probeAll", inPlace := ["math.sqrt"], unfollowed := true, recurses := true, apart := false }
def ProbeAllSaid : Prop := probeAllRow.holds Try.pinned (OpenSpec.ofChange probeAllSpec)

/-- ITS FALSE NEIGHBOUR: 'it returns false'. Refute it at one input. -/
def probeAllWrong : ChangeSpec := { name := "probeAll", fn := fun _ => fun
  | [d1, d2] => { results := [.lit (.bool false)], args := [d1, d2] }
  | _ => none }
def ProbeAllWrongFalsely : Prop := probeAllRow.holds Try.pinned (OpenSpec.ofChange probeAllWrong)

/- THE SECOND FORM. 'bulk': how many values and letters a reading holds, each counted each time it is reached (what is shared counts as often as it is met; a slice's spare places count too). A statement '..UptoSaid' is the law's where the arguments, and the package variables that the reading takes, are together of bulk at most 1048576: NARROWER than '..Said'. Prove '..Said' where nothing that the law and all that it calls make is longer than what came in: it says more and counts as full. Else prove '..UptoSaid'. A law counts once. -/
mutual
def uptoBulk {H : Type} : DataW H → Nat
  | .lit (.string bytes) => bytes.length + 1
  | .lit _ => 1
  | .nil => 1
  | .ptr d => uptoBulk d + 1
  | .slice elems spare => uptoBulkAll elems + uptoBulkAll spare + 1
  | .agg parts => uptoBulkAll parts + 1
  | .iface _ d => uptoBulk d + 1
  | .map entries => uptoBulkEntries entries + 1
  | .held _ => 1
def uptoBulkAll {H : Type} : List (DataW H) → Nat
  | [] => 0
  | d :: r => uptoBulk d + uptoBulkAll r
def uptoBulkEntries {H : Type} : List (Lit × DataW H) → Nat
  | [] => 0
  | x :: r => uptoBulkEntry x + uptoBulkEntries r
def uptoBulkEntry {H : Type} : Lit × DataW H → Nat
  | (.string bytes, d) => bytes.length + uptoBulk d + 1
  | (_, d) => uptoBulk d + 1
 end
def uptoSmall : (H : Type) → List (DataW H) → Bool := fun _ ds => decide (uptoBulkAll ds ≤ 1048576)
def OpenSpec.upto (s : _root_.Go.ChangeSpec) : _root_.Go.OpenSpec := { _root_.Go.OpenSpec.ofChange s with cond := some uptoSmall }

/-- 'skywaykeep1.HeapqOrder', WHERE WHAT IT READS IS OF BULK AT MOST 1048576: true; the input reads as it did. -/
def heapqOrderUptoRow : OpenClaim := { program := "ythghilclgobpbaa", sum := "6b0a2939325451cda9d916e6fe090e50901ed3e076e919fe29da3859521b5071", func := "skyway/skywaykeep1.HeapqOrder", spec := "heapqOrder", apart := false, narrowed := true }
def HeapqOrderUptoSaid : Prop := heapqOrderUptoRow.holds Try.pinned (OpenSpec.upto heapqOrderSpec)

/-- 'skywaykeep1.HeapqAll', WHERE WHAT IT READS IS OF BULK AT MOST 1048576: true; the input reads as it did. -/
def heapqAllUptoRow : OpenClaim := { program := "ythghilclgobpbaa", sum := "6b0a2939325451cda9d916e6fe090e50901ed3e076e919fe29da3859521b5071", func := "skyway/skywaykeep1.HeapqAll", spec := "heapqAll", unfollowed := true, recurses := true, apart := false, narrowed := true }
def HeapqAllUptoSaid : Prop := heapqAllUptoRow.holds Try.pinned (OpenSpec.upto heapqAllSpec)

/-- 'skywaykeep1.PolygonOverlap', WHERE WHAT IT READS IS OF BULK AT MOST 1048576: true; the input reads as it did. -/
def polygonOverlapUptoRow : OpenClaim := { program := "ythghilclgobpbaa", sum := "6b0a2939325451cda9d916e6fe090e50901ed3e076e919fe29da3859521b5071", func := "skyway/skywaykeep1.PolygonOverlap", spec := "polygonOverlap", apart := false, narrowed := true }
def PolygonOverlapUptoSaid : Prop := polygonOverlapUptoRow.holds Try.pinned (OpenSpec.upto polygonOverlapSpec)

/-- 'skywaykeep1.VolumeOverlap', WHERE WHAT IT READS IS OF BULK AT MOST 1048576: true; the input reads as it did. -/
def volumeOverlapUptoRow : OpenClaim := { program := "ythghilclgobpbaa", sum := "6b0a2939325451cda9d916e6fe090e50901ed3e076e919fe29da3859521b5071", func := "skyway/skywaykeep1.VolumeOverlap", spec := "volumeOverlap", unfollowed := true, recurses := true, apart := false, narrowed := true }
def VolumeOverlapUptoSaid : Prop := volumeOverlapUptoRow.holds Try.pinned (OpenSpec.upto volumeOverlapSpec)

/-- 'skywaykeep1.ProbeAll', WHERE WHAT IT READS IS OF BULK AT MOST 1048576: true; the input reads as it did. -/
def probeAllUptoRow : OpenClaim := { program := "ythghilclgobpbaa", sum := "6b0a2939325451cda9d916e6fe090e50901ed3e076e919fe29da3859521b5071", func := "skyway/skywaykeep1.ProbeAll", spec := "probeAll", inPlace := ["math.sqrt"], unfollowed := true, recurses := true, apart := false, narrowed := true }
def ProbeAllUptoSaid : Prop := probeAllUptoRow.holds Try.pinned (OpenSpec.upto probeAllSpec)

end Rows
end Go.Proofs.Ythghilclgobpbaa
