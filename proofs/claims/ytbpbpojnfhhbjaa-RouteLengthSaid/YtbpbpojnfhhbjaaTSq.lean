/- Two phrases of printed texts as lemmas: what a default argument finds. -/
import Derived.Test.YtbpbpojnfhhbjaaTWWords
namespace Go.Proofs.YtbpbpojnfhhbjaaW.PrintWords
open Go.RowKit
theorem blk_s {w : World} {g : Nat} {o : Obj} (s : w.heap[g]? = some o := by (with_reducible repeat (first | refine blk_drewN ?_ _ | refine blk_drew ?_ | refine blk_alloc ?_ _ | refine blk_far ?_ (Aside0.out ‹_›) _)); exact Aside0.out ‹_›) : w.heap[g]? = some o := s
theorem bel_s {n : Nat} {w W : World} (s : Below n w W := by repeat (first | (with_reducible first | exact Aside0.out ‹_› | apply below_alloc | apply pw_below_drewN | apply below_drew1 | refine below_set ?_ (Aside0.out ‹_›)) | exact Aside0.out ‹_›)) : Below n w W := s
theorem any_s {p : Prop} (h : p := by (try simp only [List.map_toArray, List.map_cons, List.map_nil]); first | done | rfl | (simp only [List.length_drop, List.length_take]; rfl)) : p := h
end Go.Proofs.YtbpbpojnfhhbjaaW.PrintWords
