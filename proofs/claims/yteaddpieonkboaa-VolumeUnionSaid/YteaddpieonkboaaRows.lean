/-
  No cell of these rows narrows 'for every input' (looked for: loops, veiled, ifaces, maps, wideKeys, modest, calm, conditions, laid).
  DERIVED. THE GIVEN ROWS OF THIS SEAT. 12 by the template 'for every input the law returns true; each argument reads behind the call as it read before'; 0 by the template 'total and deterministic' (their statements: YteaddpieonkboaaTotals.lean).
  GIVEN WITH THE SEED: the statements are not yours to turn. If you find one false, say at which input.
  Laid BY PROGRAM, IN A SANDBOX (cutbox-rows.mjs): the forced cells as the released guide's own fill.sh prints them over the translation 09c24aaffd748aa7… (all of the seat's roots in one cut). By AI agents, Wed Nov 11 2026. No macro, syntax, notation, axiom, sorry.
-/
import Derived.Test.YteaddpieonkboaaChecked
import GoSem.Claim
import GoSem.ClaimJoined
import GoSem.ClaimMapViews
import Derived.JoinedTies
import Derived.KernelRfl
namespace Go.Proofs.Yteaddpieonkboaa
/- THE CELL 'sum', in the pinned program and in every row, IS THE sha256 OF THE DUMP (.gsa) THAT YteaddpieonkboaaProg.lean LOADS. Nothing in Lean hashes anything: it is a label: what it is worth is what the hold of that sum in a sandbox is worth. -/
noncomputable def Try.pinned : Pinned := { name := "yteaddpieonkboaa", sum := "09c24aaffd748aa7f8f7f8cadf93096c79865efbe45ad9a129c84a80393c7bd6", checked := Try.checked }
namespace Rows
def none {H : Type} : Left H := { results := [], args := [] }

/-- 'skywaykeep1.PolygonApart': WHATEVER THE INPUT: true; the input reads as it did. -/
def polygonApartSpec : ChangeSpec := { name := "polygonApart", fn := fun _ => fun
  | [d1, d2, d3] => { results := [.lit (.bool true)], args := [d1, d2, d3] }
  | _ => none }
def polygonApartRow : OpenClaim := { program := "yteaddpieonkboaa", sum := "09c24aaffd748aa7f8f7f8cadf93096c79865efbe45ad9a129c84a80393c7bd6", func := "skyway/skywaykeep1.PolygonApart", spec := "polygonApart", apart := false }
def PolygonApartSaid : Prop := polygonApartRow.holds Try.pinned (OpenSpec.ofChange polygonApartSpec)

/-- ITS FALSE NEIGHBOUR: 'it returns false'. Refute it at one input. -/
def polygonApartWrong : ChangeSpec := { name := "polygonApart", fn := fun _ => fun
  | [d1, d2, d3] => { results := [.lit (.bool false)], args := [d1, d2, d3] }
  | _ => none }
def PolygonApartWrongFalsely : Prop := polygonApartRow.holds Try.pinned (OpenSpec.ofChange polygonApartWrong)

/-- 'skywaykeep1.PolygonTurned': WHATEVER THE INPUT: true; the input reads as it did. -/
def polygonTurnedSpec : ChangeSpec := { name := "polygonTurned", fn := fun _ => fun
  | [d1, d2, d3] => { results := [.lit (.bool true)], args := [d1, d2, d3] }
  | _ => none }
def polygonTurnedRow : OpenClaim := { program := "yteaddpieonkboaa", sum := "09c24aaffd748aa7f8f7f8cadf93096c79865efbe45ad9a129c84a80393c7bd6", func := "skyway/skywaykeep1.PolygonTurned", spec := "polygonTurned", apart := false }
def PolygonTurnedSaid : Prop := polygonTurnedRow.holds Try.pinned (OpenSpec.ofChange polygonTurnedSpec)

/-- ITS FALSE NEIGHBOUR: 'it returns false'. Refute it at one input. -/
def polygonTurnedWrong : ChangeSpec := { name := "polygonTurned", fn := fun _ => fun
  | [d1, d2, d3] => { results := [.lit (.bool false)], args := [d1, d2, d3] }
  | _ => none }
def PolygonTurnedWrongFalsely : Prop := polygonTurnedRow.holds Try.pinned (OpenSpec.ofChange polygonTurnedWrong)

/-- 'skywaykeep1.MotionSpeed': WHATEVER THE INPUT: true; the input reads as it did. -/
def motionSpeedSpec : ChangeSpec := { name := "motionSpeed", fn := fun _ => fun
  | [d1, d2] => { results := [.lit (.bool true)], args := [d1, d2] }
  | _ => none }
def motionSpeedRow : OpenClaim := { program := "yteaddpieonkboaa", sum := "09c24aaffd748aa7f8f7f8cadf93096c79865efbe45ad9a129c84a80393c7bd6", func := "skyway/skywaykeep1.MotionSpeed", spec := "motionSpeed", inPlace := ["math.sqrt"], apart := false }
def MotionSpeedSaid : Prop := motionSpeedRow.holds Try.pinned (OpenSpec.ofChange motionSpeedSpec)

/-- ITS FALSE NEIGHBOUR: 'it returns false'. Refute it at one input. -/
def motionSpeedWrong : ChangeSpec := { name := "motionSpeed", fn := fun _ => fun
  | [d1, d2] => { results := [.lit (.bool false)], args := [d1, d2] }
  | _ => none }
def MotionSpeedWrongFalsely : Prop := motionSpeedRow.holds Try.pinned (OpenSpec.ofChange motionSpeedWrong)

/-- 'skywaykeep1.PolygonMeets': WHATEVER THE INPUT: true; the input reads as it did. -/
def polygonMeetsSpec : ChangeSpec := { name := "polygonMeets", fn := fun _ => fun
  | [d1, d2, d3] => { results := [.lit (.bool true)], args := [d1, d2, d3] }
  | _ => none }
def polygonMeetsRow : OpenClaim := { program := "yteaddpieonkboaa", sum := "09c24aaffd748aa7f8f7f8cadf93096c79865efbe45ad9a129c84a80393c7bd6", func := "skyway/skywaykeep1.PolygonMeets", spec := "polygonMeets", apart := false }
def PolygonMeetsSaid : Prop := polygonMeetsRow.holds Try.pinned (OpenSpec.ofChange polygonMeetsSpec)

/-- ITS FALSE NEIGHBOUR: 'it returns false'. Refute it at one input. -/
def polygonMeetsWrong : ChangeSpec := { name := "polygonMeets", fn := fun _ => fun
  | [d1, d2, d3] => { results := [.lit (.bool false)], args := [d1, d2, d3] }
  | _ => none }
def PolygonMeetsWrongFalsely : Prop := polygonMeetsRow.holds Try.pinned (OpenSpec.ofChange polygonMeetsWrong)

/-- 'skywaykeep1.MotionLeast': WHATEVER THE INPUT: true; the input reads as it did. -/
def motionLeastSpec : ChangeSpec := { name := "motionLeast", fn := fun _ => fun
  | [d1, d2, d3] => { results := [.lit (.bool true)], args := [d1, d2, d3] }
  | _ => none }
def motionLeastRow : OpenClaim := { program := "yteaddpieonkboaa", sum := "09c24aaffd748aa7f8f7f8cadf93096c79865efbe45ad9a129c84a80393c7bd6", func := "skyway/skywaykeep1.MotionLeast", spec := "motionLeast", inPlace := ["math.sqrt"], apart := false }
def MotionLeastSaid : Prop := motionLeastRow.holds Try.pinned (OpenSpec.ofChange motionLeastSpec)

/-- ITS FALSE NEIGHBOUR: 'it returns false'. Refute it at one input. -/
def motionLeastWrong : ChangeSpec := { name := "motionLeast", fn := fun _ => fun
  | [d1, d2, d3] => { results := [.lit (.bool false)], args := [d1, d2, d3] }
  | _ => none }
def MotionLeastWrongFalsely : Prop := motionLeastRow.holds Try.pinned (OpenSpec.ofChange motionLeastWrong)

/-- 'skywaykeep1.MotionFirst': WHATEVER THE INPUT: true; the input reads as it did. -/
def motionFirstSpec : ChangeSpec := { name := "motionFirst", fn := fun _ => fun
  | [d1, d2, d3] => { results := [.lit (.bool true)], args := [d1, d2, d3] }
  | _ => none }
def motionFirstRow : OpenClaim := { program := "yteaddpieonkboaa", sum := "09c24aaffd748aa7f8f7f8cadf93096c79865efbe45ad9a129c84a80393c7bd6", func := "skyway/skywaykeep1.MotionFirst", spec := "motionFirst", inPlace := ["math.sqrt"], apart := false }
def MotionFirstSaid : Prop := motionFirstRow.holds Try.pinned (OpenSpec.ofChange motionFirstSpec)

/-- ITS FALSE NEIGHBOUR: 'it returns false'. Refute it at one input. -/
def motionFirstWrong : ChangeSpec := { name := "motionFirst", fn := fun _ => fun
  | [d1, d2, d3] => { results := [.lit (.bool false)], args := [d1, d2, d3] }
  | _ => none }
def MotionFirstWrongFalsely : Prop := motionFirstRow.holds Try.pinned (OpenSpec.ofChange motionFirstWrong)

/-- 'skywaykeep1.PolygonOverlap': WHATEVER THE INPUT: true; the input reads as it did. -/
def polygonOverlapSpec : ChangeSpec := { name := "polygonOverlap", fn := fun _ => fun
  | [d1, d2] => { results := [.lit (.bool true)], args := [d1, d2] }
  | _ => none }
def polygonOverlapRow : OpenClaim := { program := "yteaddpieonkboaa", sum := "09c24aaffd748aa7f8f7f8cadf93096c79865efbe45ad9a129c84a80393c7bd6", func := "skyway/skywaykeep1.PolygonOverlap", spec := "polygonOverlap", apart := false }
def PolygonOverlapSaid : Prop := polygonOverlapRow.holds Try.pinned (OpenSpec.ofChange polygonOverlapSpec)

/-- ITS FALSE NEIGHBOUR: 'it returns false'. Refute it at one input. -/
def polygonOverlapWrong : ChangeSpec := { name := "polygonOverlap", fn := fun _ => fun
  | [d1, d2] => { results := [.lit (.bool false)], args := [d1, d2] }
  | _ => none }
def PolygonOverlapWrongFalsely : Prop := polygonOverlapRow.holds Try.pinned (OpenSpec.ofChange polygonOverlapWrong)

/-- 'skywaykeep1.VolumeFree': WHATEVER THE INPUT: true; the input reads as it did. -/
def volumeFreeSpec : ChangeSpec := { name := "volumeFree", fn := fun _ => fun
  | [d1, d2, d3] => { results := [.lit (.bool true)], args := [d1, d2, d3] }
  | _ => none }
def volumeFreeRow : OpenClaim := { program := "yteaddpieonkboaa", sum := "09c24aaffd748aa7f8f7f8cadf93096c79865efbe45ad9a129c84a80393c7bd6", func := "skyway/skywaykeep1.VolumeFree", spec := "volumeFree", unfollowed := true, recurses := true, apart := false }
def VolumeFreeSaid : Prop := volumeFreeRow.holds Try.pinned (OpenSpec.ofChange volumeFreeSpec)

/-- ITS FALSE NEIGHBOUR: 'it returns false'. Refute it at one input. -/
def volumeFreeWrong : ChangeSpec := { name := "volumeFree", fn := fun _ => fun
  | [d1, d2, d3] => { results := [.lit (.bool false)], args := [d1, d2, d3] }
  | _ => none }
def VolumeFreeWrongFalsely : Prop := volumeFreeRow.holds Try.pinned (OpenSpec.ofChange volumeFreeWrong)

/-- 'skywaykeep1.VolumeUnion': WHATEVER THE INPUT: true; the input reads as it did. -/
def volumeUnionSpec : ChangeSpec := { name := "volumeUnion", fn := fun _ => fun
  | [d1, d2] => { results := [.lit (.bool true)], args := [d1, d2] }
  | _ => none }
def volumeUnionRow : OpenClaim := { program := "yteaddpieonkboaa", sum := "09c24aaffd748aa7f8f7f8cadf93096c79865efbe45ad9a129c84a80393c7bd6", func := "skyway/skywaykeep1.VolumeUnion", spec := "volumeUnion", unfollowed := true, recurses := true, apart := false }
def VolumeUnionSaid : Prop := volumeUnionRow.holds Try.pinned (OpenSpec.ofChange volumeUnionSpec)

/-- ITS FALSE NEIGHBOUR: 'it returns false'. Refute it at one input. -/
def volumeUnionWrong : ChangeSpec := { name := "volumeUnion", fn := fun _ => fun
  | [d1, d2] => { results := [.lit (.bool false)], args := [d1, d2] }
  | _ => none }
def VolumeUnionWrongFalsely : Prop := volumeUnionRow.holds Try.pinned (OpenSpec.ofChange volumeUnionWrong)

/-- 'skywaykeep1.VolumeHas': WHATEVER THE INPUT: true; the input reads as it did. -/
def volumeHasSpec : ChangeSpec := { name := "volumeHas", fn := fun _ => fun
  | [d1, d2, d3] => { results := [.lit (.bool true)], args := [d1, d2, d3] }
  | _ => none }
def volumeHasRow : OpenClaim := { program := "yteaddpieonkboaa", sum := "09c24aaffd748aa7f8f7f8cadf93096c79865efbe45ad9a129c84a80393c7bd6", func := "skyway/skywaykeep1.VolumeHas", spec := "volumeHas", unfollowed := true, recurses := true, apart := false }
def VolumeHasSaid : Prop := volumeHasRow.holds Try.pinned (OpenSpec.ofChange volumeHasSpec)

/-- ITS FALSE NEIGHBOUR: 'it returns false'. Refute it at one input. -/
def volumeHasWrong : ChangeSpec := { name := "volumeHas", fn := fun _ => fun
  | [d1, d2, d3] => { results := [.lit (.bool false)], args := [d1, d2, d3] }
  | _ => none }
def VolumeHasWrongFalsely : Prop := volumeHasRow.holds Try.pinned (OpenSpec.ofChange volumeHasWrong)

/-- 'skywaykeep1.VolumeOverlap': WHATEVER THE INPUT: true; the input reads as it did. -/
def volumeOverlapSpec : ChangeSpec := { name := "volumeOverlap", fn := fun _ => fun
  | [d1, d2] => { results := [.lit (.bool true)], args := [d1, d2] }
  | _ => none }
def volumeOverlapRow : OpenClaim := { program := "yteaddpieonkboaa", sum := "09c24aaffd748aa7f8f7f8cadf93096c79865efbe45ad9a129c84a80393c7bd6", func := "skyway/skywaykeep1.VolumeOverlap", spec := "volumeOverlap", unfollowed := true, recurses := true, apart := false }
def VolumeOverlapSaid : Prop := volumeOverlapRow.holds Try.pinned (OpenSpec.ofChange volumeOverlapSpec)

/-- ITS FALSE NEIGHBOUR: 'it returns false'. Refute it at one input. -/
def volumeOverlapWrong : ChangeSpec := { name := "volumeOverlap", fn := fun _ => fun
  | [d1, d2] => { results := [.lit (.bool false)], args := [d1, d2] }
  | _ => none }
def VolumeOverlapWrongFalsely : Prop := volumeOverlapRow.holds Try.pinned (OpenSpec.ofChange volumeOverlapWrong)

/-- 'skywaykeep1.HeapqAll': WHATEVER THE INPUT: true; the input reads as it did. -/
def heapqAllSpec : ChangeSpec := { name := "heapqAll", fn := fun _ => fun
  | [d1, d2] => { results := [.lit (.bool true)], args := [d1, d2] }
  | _ => none }
def heapqAllRow : OpenClaim := { program := "yteaddpieonkboaa", sum := "09c24aaffd748aa7f8f7f8cadf93096c79865efbe45ad9a129c84a80393c7bd6", func := "skyway/skywaykeep1.HeapqAll", spec := "heapqAll", unfollowed := true, recurses := true, apart := false }
def HeapqAllSaid : Prop := heapqAllRow.holds Try.pinned (OpenSpec.ofChange heapqAllSpec)

/-- ITS FALSE NEIGHBOUR: 'it returns false'. Refute it at one input. -/
def heapqAllWrong : ChangeSpec := { name := "heapqAll", fn := fun _ => fun
  | [d1, d2] => { results := [.lit (.bool false)], args := [d1, d2] }
  | _ => none }
def HeapqAllWrongFalsely : Prop := heapqAllRow.holds Try.pinned (OpenSpec.ofChange heapqAllWrong)

/- THE SECOND FORM. 'bulk': how many values and letters a reading holds, each counted each time it is reached (what is shared counts as often as it is met; a slice's spare places count too). A statement '..UptoSaid' is the law's where the arguments, and the package variables that the reading takes, are together of bulk at most 1048576: NARROWER than '..Said'. Prove '..Said' where nothing that the law and all that it calls make is longer than what came in: it says more and counts as full. Else prove '..UptoSaid'. A law counts once. -/
mutual
def uptoBulk {H : Type} : DataW H → Nat
  | .lit (.string bytes) => bytes.length + 1
  | .lit _ => 1
  | .nil => 1
  | .ptr d => uptoBulk d + 1
  | .slice elems spare => uptoBulkAll elems + uptoBulkAll spare + 1
  | .agg parts => uptoBulkAll parts + 1
  | .iface _ d => uptoBulk d + 1
  | .map entries => uptoBulkEntries entries + 1
  | .held _ => 1
def uptoBulkAll {H : Type} : List (DataW H) → Nat
  | [] => 0
  | d :: r => uptoBulk d + uptoBulkAll r
def uptoBulkEntries {H : Type} : List (Lit × DataW H) → Nat
  | [] => 0
  | x :: r => uptoBulkEntry x + uptoBulkEntries r
def uptoBulkEntry {H : Type} : Lit × DataW H → Nat
  | (.string bytes, d) => bytes.length + uptoBulk d + 1
  | (_, d) => uptoBulk d + 1
 end
def uptoSmall : (H : Type) → List (DataW H) → Bool := fun _ ds => decide (uptoBulkAll ds ≤ 1048576)
def OpenSpec.upto (s : _root_.Go.ChangeSpec) : _root_.Go.OpenSpec := { _root_.Go.OpenSpec.ofChange s with cond := some uptoSmall }

/-- 'skywaykeep1.PolygonApart', WHERE WHAT IT READS IS OF BULK AT MOST 1048576: true; the input reads as it did. -/
def polygonApartUptoRow : OpenClaim := { program := "yteaddpieonkboaa", sum := "09c24aaffd748aa7f8f7f8cadf93096c79865efbe45ad9a129c84a80393c7bd6", func := "skyway/skywaykeep1.PolygonApart", spec := "polygonApart", apart := false, narrowed := true }
def PolygonApartUptoSaid : Prop := polygonApartUptoRow.holds Try.pinned (OpenSpec.upto polygonApartSpec)

/-- 'skywaykeep1.PolygonTurned', WHERE WHAT IT READS IS OF BULK AT MOST 1048576: true; the input reads as it did. -/
def polygonTurnedUptoRow : OpenClaim := { program := "yteaddpieonkboaa", sum := "09c24aaffd748aa7f8f7f8cadf93096c79865efbe45ad9a129c84a80393c7bd6", func := "skyway/skywaykeep1.PolygonTurned", spec := "polygonTurned", apart := false, narrowed := true }
def PolygonTurnedUptoSaid : Prop := polygonTurnedUptoRow.holds Try.pinned (OpenSpec.upto polygonTurnedSpec)

/-- 'skywaykeep1.MotionSpeed', WHERE WHAT IT READS IS OF BULK AT MOST 1048576: true; the input reads as it did. -/
def motionSpeedUptoRow : OpenClaim := { program := "yteaddpieonkboaa", sum := "09c24aaffd748aa7f8f7f8cadf93096c79865efbe45ad9a129c84a80393c7bd6", func := "skyway/skywaykeep1.MotionSpeed", spec := "motionSpeed", inPlace := ["math.sqrt"], apart := false, narrowed := true }
def MotionSpeedUptoSaid : Prop := motionSpeedUptoRow.holds Try.pinned (OpenSpec.upto motionSpeedSpec)

/-- 'skywaykeep1.PolygonMeets', WHERE WHAT IT READS IS OF BULK AT MOST 1048576: true; the input reads as it did. -/
def polygonMeetsUptoRow : OpenClaim := { program := "yteaddpieonkboaa", sum := "09c24aaffd748aa7f8f7f8cadf93096c79865efbe45ad9a129c84a80393c7bd6", func := "skyway/skywaykeep1.PolygonMeets", spec := "polygonMeets", apart := false, narrowed := true }
def PolygonMeetsUptoSaid : Prop := polygonMeetsUptoRow.holds Try.pinned (OpenSpec.upto polygonMeetsSpec)

/-- 'skywaykeep1.MotionLeast', WHERE WHAT IT READS IS OF BULK AT MOST 1048576: true; the input reads as it did. -/
def motionLeastUptoRow : OpenClaim := { program := "yteaddpieonkboaa", sum := "09c24aaffd748aa7f8f7f8cadf93096c79865efbe45ad9a129c84a80393c7bd6", func := "skyway/skywaykeep1.MotionLeast", spec := "motionLeast", inPlace := ["math.sqrt"], apart := false, narrowed := true }
def MotionLeastUptoSaid : Prop := motionLeastUptoRow.holds Try.pinned (OpenSpec.upto motionLeastSpec)

/-- 'skywaykeep1.MotionFirst', WHERE WHAT IT READS IS OF BULK AT MOST 1048576: true; the input reads as it did. -/
def motionFirstUptoRow : OpenClaim := { program := "yteaddpieonkboaa", sum := "09c24aaffd748aa7f8f7f8cadf93096c79865efbe45ad9a129c84a80393c7bd6", func := "skyway/skywaykeep1.MotionFirst", spec := "motionFirst", inPlace := ["math.sqrt"], apart := false, narrowed := true }
def MotionFirstUptoSaid : Prop := motionFirstUptoRow.holds Try.pinned (OpenSpec.upto motionFirstSpec)

/-- 'skywaykeep1.PolygonOverlap', WHERE WHAT IT READS IS OF BULK AT MOST 1048576: true; the input reads as it did. -/
def polygonOverlapUptoRow : OpenClaim := { program := "yteaddpieonkboaa", sum := "09c24aaffd748aa7f8f7f8cadf93096c79865efbe45ad9a129c84a80393c7bd6", func := "skyway/skywaykeep1.PolygonOverlap", spec := "polygonOverlap", apart := false, narrowed := true }
def PolygonOverlapUptoSaid : Prop := polygonOverlapUptoRow.holds Try.pinned (OpenSpec.upto polygonOverlapSpec)

/-- 'skywaykeep1.VolumeFree', WHERE WHAT IT READS IS OF BULK AT MOST 1048576: true; the input reads as it did. -/
def volumeFreeUptoRow : OpenClaim := { program := "yteaddpieonkboaa", sum := "09c24aaffd748aa7f8f7f8cadf93096c79865efbe45ad9a129c84a80393c7bd6", func := "skyway/skywaykeep1.VolumeFree", spec := "volumeFree", unfollowed := true, recurses := true, apart := false, narrowed := true }
def VolumeFreeUptoSaid : Prop := volumeFreeUptoRow.holds Try.pinned (OpenSpec.upto volumeFreeSpec)

/-- 'skywaykeep1.VolumeUnion', WHERE WHAT IT READS IS OF BULK AT MOST 1048576: true; the input reads as it did. -/
def volumeUnionUptoRow : OpenClaim := { program := "yteaddpieonkboaa", sum := "09c24aaffd748aa7f8f7f8cadf93096c79865efbe45ad9a129c84a80393c7bd6", func := "skyway/skywaykeep1.VolumeUnion", spec := "volumeUnion", unfollowed := true, recurses := true, apart := false, narrowed := true }
def VolumeUnionUptoSaid : Prop := volumeUnionUptoRow.holds Try.pinned (OpenSpec.upto volumeUnionSpec)

/-- 'skywaykeep1.VolumeHas', WHERE WHAT IT READS IS OF BULK AT MOST 1048576: true; the input reads as it did. -/
def volumeHasUptoRow : OpenClaim := { program := "yteaddpieonkboaa", sum := "09c24aaffd748aa7f8f7f8cadf93096c79865efbe45ad9a129c84a80393c7bd6", func := "skyway/skywaykeep1.VolumeHas", spec := "volumeHas", unfollowed := true, recurses := true, apart := false, narrowed := true }
def VolumeHasUptoSaid : Prop := volumeHasUptoRow.holds Try.pinned (OpenSpec.upto volumeHasSpec)

/-- 'skywaykeep1.VolumeOverlap', WHERE WHAT IT READS IS OF BULK AT MOST 1048576: true; the input reads as it did. -/
def volumeOverlapUptoRow : OpenClaim := { program := "yteaddpieonkboaa", sum := "09c24aaffd748aa7f8f7f8cadf93096c79865efbe45ad9a129c84a80393c7bd6", func := "skyway/skywaykeep1.VolumeOverlap", spec := "volumeOverlap", unfollowed := true, recurses := true, apart := false, narrowed := true }
def VolumeOverlapUptoSaid : Prop := volumeOverlapUptoRow.holds Try.pinned (OpenSpec.upto volumeOverlapSpec)

/-- 'skywaykeep1.HeapqAll', WHERE WHAT IT READS IS OF BULK AT MOST 1048576: true; the input reads as it did. -/
def heapqAllUptoRow : OpenClaim := { program := "yteaddpieonkboaa", sum := "09c24aaffd748aa7f8f7f8cadf93096c79865efbe45ad9a129c84a80393c7bd6", func := "skyway/skywaykeep1.HeapqAll", spec := "heapqAll", unfollowed := true, recurses := true, apart := false, narrowed := true }
def HeapqAllUptoSaid : Prop := heapqAllUptoRow.holds Try.pinned (OpenSpec.upto heapqAllSpec)

end Rows
end Go.Proofs.Yteaddpieonkboaa
