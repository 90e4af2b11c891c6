/- Made by a program of this session (wip/tools/myprint.py, over the kit's printer): that the Go functions answer as the Lean functions printed beside them. -/
import Derived.Test.YtbpbpojnfhhbjaaPFlyClosedx0
import Derived.Test.YtbpbpojnfhhbjaaPFlyClosedx5
namespace Go.Proofs.Ytbpbpojnfhhbjaa.PFlyClosed
open Go.RowKit Go.Proofs.YtbpbpojnfhhbjaaW.PrintWords Go.Proofs.YtbpbpojnfhhbjaaW.PrintLast Go.Proofs.YtbpbpojnfhhbjaaW.PrintMore
attribute [local go_sem] max2_int min2_int max_two min_two max_three min_three max_four min_four   -- for this text's walks alone
set_option linter.unusedVariables false
set_option linter.unusedSimpArgs false

/-! ### polygon_Common: function 105 -/
def polygon_Common.j0 : Nat → Int → Int → Int → Int → Bool → Int → Int → Int → Int → Int → Int → Int → Int → Option (Bool)
  | 0, _, _, _, _, _, _, _, _, _, _, _, _, _ => none
  | k + 1, x9, x10, x11, x12, x38, x182000, x182001, x183000, x183001, x184000, x184001, x185000, x185001 => if x38 = true then (some true) else (if x9 = 0 then ((polygon_on.f x182000 x182001 x183000 x183001 x184000 x184001).bind fun t189 => (if t189 = true then (some true) else (if x10 = 0 then ((polygon_on.f x182000 x182001 x183000 x183001 x185000 x185001).bind fun t190 => (if t190 = true then (some true) else (if x11 = 0 then ((polygon_on.f x184000 x184001 x185000 x185001 x182000 x182001).bind fun t191 => (if t191 = true then (some true) else (if x12 = 0 then ((polygon_on.f x184000 x184001 x185000 x185001 x183000 x183001).bind fun t192 => (some t192)) else (some false)))) else (if x12 = 0 then ((polygon_on.f x184000 x184001 x185000 x185001 x183000 x183001).bind fun t193 => (some t193)) else (some false))))) else (if x11 = 0 then ((polygon_on.f x184000 x184001 x185000 x185001 x182000 x182001).bind fun t194 => (if t194 = true then (some true) else (if x12 = 0 then ((polygon_on.f x184000 x184001 x185000 x185001 x183000 x183001).bind fun t195 => (some t195)) else (some false)))) else (if x12 = 0 then ((polygon_on.f x184000 x184001 x185000 x185001 x183000 x183001).bind fun t196 => (some t196)) else (some false)))))) else (if x10 = 0 then ((polygon_on.f x182000 x182001 x183000 x183001 x185000 x185001).bind fun t197 => (if t197 = true then (some true) else (if x11 = 0 then ((polygon_on.f x184000 x184001 x185000 x185001 x182000 x182001).bind fun t198 => (if t198 = true then (some true) else (if x12 = 0 then ((polygon_on.f x184000 x184001 x185000 x185001 x183000 x183001).bind fun t199 => (some t199)) else (some false)))) else (if x12 = 0 then ((polygon_on.f x184000 x184001 x185000 x185001 x183000 x183001).bind fun t200 => (some t200)) else (some false))))) else (if x11 = 0 then ((polygon_on.f x184000 x184001 x185000 x185001 x182000 x182001).bind fun t201 => (if t201 = true then (some true) else (if x12 = 0 then ((polygon_on.f x184000 x184001 x185000 x185001 x183000 x183001).bind fun t202 => (some t202)) else (some false)))) else (if x12 = 0 then ((polygon_on.f x184000 x184001 x185000 x185001 x183000 x183001).bind fun t203 => (some t203)) else (some false)))))
def polygon_Common.f (k : Nat) (a0_0 : Int) (a0_1 : Int) (a1_0 : Int) (a1_1 : Int) (a2_0 : Int) (a2_1 : Int) (a3_0 : Int) (a3_1 : Int) : Option (Bool) := (plane_Turn.f a0_0 a0_1 a1_0 a1_1 a2_0 a2_1).bind fun t185 => ((plane_Turn.f a0_0 a0_1 a1_0 a1_1 a3_0 a3_1).bind fun t186 => ((plane_Turn.f a2_0 a2_1 a3_0 a3_1 a0_0 a0_1).bind fun t187 => ((plane_Turn.f a2_0 a2_1 a3_0 a3_1 a1_0 a1_1).bind fun t188 => (if (wrap64 (t185 * t186)) < 0 then (polygon_Common.j0 k t185 t186 t187 t188 (decide ((wrap64 (t187 * t188)) < 0)) a0_0 a0_1 a1_0 a1_1 a2_0 a2_1 a3_0 a3_1) else (polygon_Common.j0 k t185 t186 t187 t188 false a0_0 a0_1 a1_0 a1_1 a2_0 a2_1 a3_0 a3_1)))))
theorem polygon_Common.mono_l : ∀ k, (∀ y0 y1 y2 y3 y4 y5 y6 y7 y8 y9 y10 y11 y12, LeO (polygon_Common.j0 k y0 y1 y2 y3 y4 y5 y6 y7 y8 y9 y10 y11 y12) (polygon_Common.j0 (k + 1) y0 y1 y2 y3 y4 y5 y6 y7 y8 y9 y10 y11 y12))
  | 0 => fun _ _ _ _ _ _ _ _ _ _ _ _ _ r h => by simp [polygon_Common.j0] at h
  | k + 1 => by
    have ih0 := polygon_Common.mono_l k
    · intro y0 y1 y2 y3 y4 y5 y6 y7 y8 y9 y10 y11 y12
      unfold polygon_Common.j0
      repeat' first
      | (with_reducible exact ih0 _ _ _ _ _ _ _ _ _ _ _ _ _)
      | (with_reducible exact LeO.refl _)
      | (with_reducible exact LeO.none _)
      | (with_reducible refine LeO.ite ?_ ?_)
      | (with_reducible refine LeO.bind ?_ (fun _ => ?_))
      | exact ih0 _ _ _ _ _ _ _ _ _ _ _ _ _
      | exact LeO.none _
      | refine LeO.ite ?_ ?_
      | refine LeO.bind ?_ (fun _ => ?_)
theorem polygon_Common.mono : ∀ a0 a1 a2 a3 a4 a5 a6 a7 k, LeO (polygon_Common.f k a0 a1 a2 a3 a4 a5 a6 a7) (polygon_Common.f (k + 1) a0 a1 a2 a3 a4 a5 a6 a7) := by
  intro a0 a1 a2 a3 a4 a5 a6 a7 k
  have ih0 := polygon_Common.mono_l k
  unfold polygon_Common.f
  repeat' first
      | (with_reducible exact ih0 _ _ _ _ _ _ _ _ _ _ _ _ _)
      | (with_reducible exact LeO.refl _)
      | (with_reducible exact LeO.none _)
      | (with_reducible refine LeO.ite ?_ ?_)
      | (with_reducible refine LeO.bind ?_ (fun _ => ?_))
      | exact ih0 _ _ _ _ _ _ _ _ _ _ _ _ _
      | exact LeO.none _
      | refine LeO.ite ?_ ?_
      | refine LeO.bind ?_ (fun _ => ?_)
def polygon_Common.T1 : Bool × List (List Nat × List Nat) := (true, [([], []), ([], []), ([], []), ([0, 1, 2], [0, 1, 2]), ([], []), ([], []), ([], []), ([4, 5, 6, 3], [4, 5, 6]), ([3, 7, 0, 1, 2, 3], [3]), ([7, 8, 0, 1, 2, 3, 4, 5, 6, 7, 8], [7])])
def polygon_Common.B1 : List Nat := [0, 0, 0, 7, 0, 0, 0, 127, 255, 511]
theorem polygon_Common.tab1 : rtab .any (opsOf Try.f105 1) = polygon_Common.T1 := by kernel_rfl
theorem polygon_Common.bits1 : waitsOk polygon_Common.T1.2 polygon_Common.B1 = true := by kernel_rfl
def polygon_Common.T2 : Bool × List (List Nat × List Nat) := (true, [([], []), ([], []), ([], []), ([0, 1, 2], [0, 1, 2]), ([], []), ([], []), ([], []), ([4, 5, 6, 3], [4, 5, 6]), ([3, 7, 0, 1, 2, 3], [3]), ([7, 8, 0, 1, 2, 3, 4, 5, 6, 7, 8], [7])])
def polygon_Common.B2 : List Nat := [0, 0, 0, 7, 0, 0, 0, 127, 255, 511]
theorem polygon_Common.tab2 : rtab .any (opsOf Try.f105 2) = polygon_Common.T2 := by kernel_rfl
theorem polygon_Common.bits2 : waitsOk polygon_Common.T2.2 polygon_Common.B2 = true := by kernel_rfl
set_option maxHeartbeats 8000000 in
set_option maxRecDepth 100000 in
theorem polygon_Common.calls (k : Nat) (a0_0 : Int) (a0_1 : Int) (a1_0 : Int) (a1_1 : Int) (a2_0 : Int) (a2_1 : Int) (a3_0 : Int) (a3_1 : Int) (r : Bool) (w : World) (h : polygon_Common.f k a0_0 a0_1 a1_0 a1_1 a2_0 a2_1 a3_0 a3_1 = some r) :
    Calls Try.prog 105 #[.agg #[.int .i64 a0_0, .int .i64 a0_1], .agg #[.int .i64 a1_0, .int .i64 a1_1], .agg #[.int .i64 a2_0, .int .i64 a2_1], .agg #[.int .i64 a3_0, .int .i64 a3_1]] w fun e w' => e = .returned (.bool r) ∧ Below w.heap.size w w' := by
 have hu36 := Try.underlying36
 have HB := Aside0.mk (Below.refl w.heap.size w)
 have H : ((plane_Turn.f a0_0 a0_1 a1_0 a1_1 a2_0 a2_1).bind fun t185 => ((plane_Turn.f a0_0 a0_1 a1_0 a1_1 a3_0 a3_1).bind fun t186 => ((plane_Turn.f a2_0 a2_1 a3_0 a3_1 a0_0 a0_1).bind fun t187 => ((plane_Turn.f a2_0 a2_1 a3_0 a3_1 a1_0 a1_1).bind fun t188 => (if (wrap64 (t185 * t186)) < 0 then (polygon_Common.j0 k t185 t186 t187 t188 (decide ((wrap64 (t187 * t188)) < 0)) a0_0 a0_1 a1_0 a1_1 a2_0 a2_1 a3_0 a3_1) else (polygon_Common.j0 k t185 t186 t187 t188 false a0_0 a0_1 a1_0 a1_1 a2_0 a2_1 a3_0 a3_1)))))) = some r := h
 clear h
 replace H := Option.bind_eq_some_iff.mp H
 obtain ⟨t185, A50, H⟩ := H
 replace H : ((plane_Turn.f a0_0 a0_1 a1_0 a1_1 a3_0 a3_1).bind fun t186 => ((plane_Turn.f a2_0 a2_1 a3_0 a3_1 a0_0 a0_1).bind fun t187 => ((plane_Turn.f a2_0 a2_1 a3_0 a3_1 a1_0 a1_1).bind fun t188 => (if (wrap64 (t185 * t186)) < 0 then (polygon_Common.j0 k t185 t186 t187 t188 (decide ((wrap64 (t187 * t188)) < 0)) a0_0 a0_1 a1_0 a1_1 a2_0 a2_1 a3_0 a3_1) else (polygon_Common.j0 k t185 t186 t187 t188 false a0_0 a0_1 a1_0 a1_1 a2_0 a2_1 a3_0 a3_1))))) = some r := H
 have A5 := Aside0.mk A50
 clear A50
 replace H := Option.bind_eq_some_iff.mp H
 obtain ⟨t186, A60, H⟩ := H
 replace H : ((plane_Turn.f a2_0 a2_1 a3_0 a3_1 a0_0 a0_1).bind fun t187 => ((plane_Turn.f a2_0 a2_1 a3_0 a3_1 a1_0 a1_1).bind fun t188 => (if (wrap64 (t185 * t186)) < 0 then (polygon_Common.j0 k t185 t186 t187 t188 (decide ((wrap64 (t187 * t188)) < 0)) a0_0 a0_1 a1_0 a1_1 a2_0 a2_1 a3_0 a3_1) else (polygon_Common.j0 k t185 t186 t187 t188 false a0_0 a0_1 a1_0 a1_1 a2_0 a2_1 a3_0 a3_1)))) = some r := H
 have A6 := Aside0.mk A60
 clear A60
 replace H := Option.bind_eq_some_iff.mp H
 obtain ⟨t187, A70, H⟩ := H
 replace H : ((plane_Turn.f a2_0 a2_1 a3_0 a3_1 a1_0 a1_1).bind fun t188 => (if (wrap64 (t185 * t186)) < 0 then (polygon_Common.j0 k t185 t186 t187 t188 (decide ((wrap64 (t187 * t188)) < 0)) a0_0 a0_1 a1_0 a1_1 a2_0 a2_1 a3_0 a3_1) else (polygon_Common.j0 k t185 t186 t187 t188 false a0_0 a0_1 a1_0 a1_1 a2_0 a2_1 a3_0 a3_1))) = some r := H
 have A7 := Aside0.mk A70
 clear A70
 replace H := Option.bind_eq_some_iff.mp H
 obtain ⟨t188, A80, H⟩ := H
 replace H : (if (wrap64 (t185 * t186)) < 0 then (polygon_Common.j0 k t185 t186 t187 t188 (decide ((wrap64 (t187 * t188)) < 0)) a0_0 a0_1 a1_0 a1_1 a2_0 a2_1 a3_0 a3_1) else (polygon_Common.j0 k t185 t186 t187 t188 false a0_0 a0_1 a1_0 a1_1 a2_0 a2_1 a3_0 a3_1)) = some r := H
 have A8 := Aside0.mk A80
 clear A80
 have HC9 := Aside0.mk H
 clear H
 go_enter Try.func105, Try.ntmps105
 try go_wp2_with (first | ((with_reducible refine gate_dst (N := 4) rfl ?_); refine box_event ?hg (N := 4) ?hd (cs := #[.int .i64 a0_0, .int .i64 a0_1]) (t := 36) ?hr ?_; (case hd => rfl); (case hg => rfl); (case hr => first | (go_simp; done) | (go_simp; rfl)); intro gb181 hg w10 hbox hb; have n0_ := Aside0.mk (below_step (by repeat (first | (with_reducible first | exact HB.out | apply below_alloc | apply pw_below_drewN | apply below_drew1) | exact HB.out)) hb); have n1_ := Aside0.mk (hbox); have n2_ := Aside0.mk ((by rw [hg]; exact (below_size (by repeat (first | (with_reducible first | exact HB.out | apply below_alloc | apply pw_below_drewN | apply below_drew1) | exact HB.out))) : w.heap.size ≤ gb181)); have n3_ := Aside0.mk ((by rw [hg]; exact (below_size (by repeat (first | (with_reducible first | exact HB.out | apply below_alloc | apply pw_below_drewN | apply below_drew1) | exact HB.out))) : w.heap.size ≤ gb181)); clear HB; have HB := n0_; have BK181 := n1_; have GW181 := n2_; have GE181 := n3_; clear n0_ n1_ n2_ n3_; clear hb hbox hg) | ((with_reducible refine gate_dst (N := 5) rfl ?_); refine box_event ?hg (N := 5) ?hd (cs := #[.int .i64 a1_0, .int .i64 a1_1]) (t := 36) ?hr ?_; (case hd => rfl); (case hg => rfl); (case hr => first | (go_simp; done) | (go_simp; rfl)); intro gb182 hg w11 hbox hb; have n0_ := Aside0.mk (blk_below (g := gb181) (o := .cells #[.int .i64 a0_0, .int .i64 a0_1] 36 (0, 0)) (by (with_reducible repeat (first | refine blk_drewN ?_ _ | refine blk_drew ?_ | refine blk_alloc ?_ _)); exact BK181.out) hb); have n1_ := Aside0.mk (below_step (by repeat (first | (with_reducible first | exact HB.out | apply below_alloc | apply pw_below_drewN | apply below_drew1 | refine below_set ?_ GE181.out) | exact HB.out)) hb); have n2_ := Aside0.mk (hbox); have n3_ := Aside0.mk ((by rw [hg]; exact (below_size (by repeat (first | (with_reducible first | exact HB.out | apply below_alloc | apply pw_below_drewN | apply below_drew1 | refine below_set ?_ GE181.out) | exact HB.out))) : w.heap.size ≤ gb182)); have n4_ := Aside0.mk ((by rw [hg]; exact (below_size (by repeat (first | (with_reducible first | exact HB.out | apply below_alloc | apply pw_below_drewN | apply below_drew1 | refine below_set ?_ GE181.out) | exact HB.out))) : w.heap.size ≤ gb182)); have n5_ := Aside0.mk ((by rw [hg]; exact Nat.ne_of_lt (blk_lt (g := gb181) (o := .cells #[.int .i64 a0_0, .int .i64 a0_1] 36 (0, 0)) (by (with_reducible repeat (first | refine blk_drewN ?_ _ | refine blk_drew ?_ | refine blk_alloc ?_ _)); exact BK181.out)) : gb181 ≠ gb182)); have n6_ := Aside0.mk ((by rw [hg]; exact Nat.ne_of_gt (blk_lt (g := gb181) (o := .cells #[.int .i64 a0_0, .int .i64 a0_1] 36 (0, 0)) (by (with_reducible repeat (first | refine blk_drewN ?_ _ | refine blk_drew ?_ | refine blk_alloc ?_ _)); exact BK181.out)) : gb182 ≠ gb181)); clear BK181; clear HB; have BK181 := n0_; have HB := n1_; have BK182 := n2_; have GW182 := n3_; have GE182 := n4_; have NB181_182 := n5_; have NB182_181 := n6_; clear n0_ n1_ n2_ n3_ n4_ n5_ n6_; clear hb hbox hg) | ((with_reducible refine gate_dst (N := 6) rfl ?_); refine box_event ?hg (N := 6) ?hd (cs := #[.int .i64 a2_0, .int .i64 a2_1]) (t := 36) ?hr ?_; (case hd => rfl); (case hg => rfl); (case hr => first | (go_simp; done) | (go_simp; rfl)); intro gb183 hg w12 hbox hb; have n0_ := Aside0.mk (blk_below (g := gb181) (o := .cells #[.int .i64 a0_0, .int .i64 a0_1] 36 (0, 0)) (by (with_reducible repeat (first | refine blk_drewN ?_ _ | refine blk_drew ?_ | refine blk_alloc ?_ _)); exact BK181.out) hb); have n1_ := Aside0.mk (blk_below (g := gb182) (o := .cells #[.int .i64 a1_0, .int .i64 a1_1] 36 (0, 0)) (by (with_reducible repeat (first | refine blk_drewN ?_ _ | refine blk_drew ?_ | refine blk_alloc ?_ _)); exact BK182.out) hb); have n2_ := Aside0.mk (below_step (by repeat (first | (with_reducible first | exact HB.out | apply below_alloc | apply pw_below_drewN | apply below_drew1 | refine below_set ?_ GE181.out | refine below_set ?_ GE182.out) | exact HB.out)) hb); have n3_ := Aside0.mk (hbox); have n4_ := Aside0.mk ((by rw [hg]; exact (below_size (by repeat (first | (with_reducible first | exact HB.out | apply below_alloc | apply pw_below_drewN | apply below_drew1 | refine below_set ?_ GE181.out | refine below_set ?_ GE182.out) | exact HB.out))) : w.heap.size ≤ gb183)); have n5_ := Aside0.mk ((by rw [hg]; exact (below_size (by repeat (first | (with_reducible first | exact HB.out | apply below_alloc | apply pw_below_drewN | apply below_drew1 | refine below_set ?_ GE181.out | refine below_set ?_ GE182.out) | exact HB.out))) : w.heap.size ≤ gb183)); have n6_ := Aside0.mk ((by rw [hg]; exact Nat.ne_of_lt (blk_lt (g := gb181) (o := .cells #[.int .i64 a0_0, .int .i64 a0_1] 36 (0, 0)) (by (with_reducible repeat (first | refine blk_drewN ?_ _ | refine blk_drew ?_ | refine blk_alloc ?_ _)); exact BK181.out)) : gb181 ≠ gb183)); have n7_ := Aside0.mk ((by rw [hg]; exact Nat.ne_of_gt (blk_lt (g := gb181) (o := .cells #[.int .i64 a0_0, .int .i64 a0_1] 36 (0, 0)) (by (with_reducible repeat (first | refine blk_drewN ?_ _ | refine blk_drew ?_ | refine blk_alloc ?_ _)); exact BK181.out)) : gb183 ≠ gb181)); have n8_ := Aside0.mk ((by rw [hg]; exact Nat.ne_of_lt (blk_lt (g := gb182) (o := .cells #[.int .i64 a1_0, .int .i64 a1_1] 36 (0, 0)) (by (with_reducible repeat (first | refine blk_drewN ?_ _ | refine blk_drew ?_ | refine blk_alloc ?_ _)); exact BK182.out)) : gb182 ≠ gb183)); have n9_ := Aside0.mk ((by rw [hg]; exact Nat.ne_of_gt (blk_lt (g := gb182) (o := .cells #[.int .i64 a1_0, .int .i64 a1_1] 36 (0, 0)) (by (with_reducible repeat (first | refine blk_drewN ?_ _ | refine blk_drew ?_ | refine blk_alloc ?_ _)); exact BK182.out)) : gb183 ≠ gb182)); clear BK181; clear BK182; clear HB; have BK181 := n0_; have BK182 := n1_; have HB := n2_; have BK183 := n3_; have GW183 := n4_; have GE183 := n5_; have NB181_183 := n6_; have NB183_181 := n7_; have NB182_183 := n8_; have NB183_182 := n9_; clear n0_ n1_ n2_ n3_ n4_ n5_ n6_ n7_ n8_ n9_; clear hb hbox hg) | ((with_reducible refine gate_dst (N := 7) rfl ?_); refine box_event ?hg (N := 7) ?hd (cs := #[.int .i64 a3_0, .int .i64 a3_1]) (t := 36) ?hr ?_; (case hd => rfl); (case hg => rfl); (case hr => first | (go_simp; done) | (go_simp; rfl)); intro gb184 hg w13 hbox hb; have n0_ := Aside0.mk (blk_below (g := gb181) (o := .cells #[.int .i64 a0_0, .int .i64 a0_1] 36 (0, 0)) (by (with_reducible repeat (first | refine blk_drewN ?_ _ | refine blk_drew ?_ | refine blk_alloc ?_ _)); exact BK181.out) hb); have n1_ := Aside0.mk (blk_below (g := gb182) (o := .cells #[.int .i64 a1_0, .int .i64 a1_1] 36 (0, 0)) (by (with_reducible repeat (first | refine blk_drewN ?_ _ | refine blk_drew ?_ | refine blk_alloc ?_ _)); exact BK182.out) hb); have n2_ := Aside0.mk (blk_below (g := gb183) (o := .cells #[.int .i64 a2_0, .int .i64 a2_1] 36 (0, 0)) (by (with_reducible repeat (first | refine blk_drewN ?_ _ | refine blk_drew ?_ | refine blk_alloc ?_ _)); exact BK183.out) hb); have n3_ := Aside0.mk (below_step (by repeat (first | (with_reducible first | exact HB.out | apply below_alloc | apply pw_below_drewN | apply below_drew1 | refine below_set ?_ GE181.out | refine below_set ?_ GE182.out | refine below_set ?_ GE183.out) | exact HB.out)) hb); have n4_ := Aside0.mk (hbox); have n5_ := Aside0.mk ((by rw [hg]; exact (below_size (by repeat (first | (with_reducible first | exact HB.out | apply below_alloc | apply pw_below_drewN | apply below_drew1 | refine below_set ?_ GE181.out | refine below_set ?_ GE182.out | refine below_set ?_ GE183.out) | exact HB.out))) : w.heap.size ≤ gb184)); have n6_ := Aside0.mk ((by rw [hg]; exact (below_size (by repeat (first | (with_reducible first | exact HB.out | apply below_alloc | apply pw_below_drewN | apply below_drew1 | refine below_set ?_ GE181.out | refine below_set ?_ GE182.out | refine below_set ?_ GE183.out) | exact HB.out))) : w.heap.size ≤ gb184)); have n7_ := Aside0.mk ((by rw [hg]; exact Nat.ne_of_lt (blk_lt (g := gb181) (o := .cells #[.int .i64 a0_0, .int .i64 a0_1] 36 (0, 0)) (by (with_reducible repeat (first | refine blk_drewN ?_ _ | refine blk_drew ?_ | refine blk_alloc ?_ _)); exact BK181.out)) : gb181 ≠ gb184)); have n8_ := Aside0.mk ((by rw [hg]; exact Nat.ne_of_gt (blk_lt (g := gb181) (o := .cells #[.int .i64 a0_0, .int .i64 a0_1] 36 (0, 0)) (by (with_reducible repeat (first | refine blk_drewN ?_ _ | refine blk_drew ?_ | refine blk_alloc ?_ _)); exact BK181.out)) : gb184 ≠ gb181)); have n9_ := Aside0.mk ((by rw [hg]; exact Nat.ne_of_lt (blk_lt (g := gb182) (o := .cells #[.int .i64 a1_0, .int .i64 a1_1] 36 (0, 0)) (by (with_reducible repeat (first | refine blk_drewN ?_ _ | refine blk_drew ?_ | refine blk_alloc ?_ _)); exact BK182.out)) : gb182 ≠ gb184)); have n10_ := Aside0.mk ((by rw [hg]; exact Nat.ne_of_gt (blk_lt (g := gb182) (o := .cells #[.int .i64 a1_0, .int .i64 a1_1] 36 (0, 0)) (by (with_reducible repeat (first | refine blk_drewN ?_ _ | refine blk_drew ?_ | refine blk_alloc ?_ _)); exact BK182.out)) : gb184 ≠ gb182)); have n11_ := Aside0.mk ((by rw [hg]; exact Nat.ne_of_lt (blk_lt (g := gb183) (o := .cells #[.int .i64 a2_0, .int .i64 a2_1] 36 (0, 0)) (by (with_reducible repeat (first | refine blk_drewN ?_ _ | refine blk_drew ?_ | refine blk_alloc ?_ _)); exact BK183.out)) : gb183 ≠ gb184)); have n12_ := Aside0.mk ((by rw [hg]; exact Nat.ne_of_gt (blk_lt (g := gb183) (o := .cells #[.int .i64 a2_0, .int .i64 a2_1] 36 (0, 0)) (by (with_reducible repeat (first | refine blk_drewN ?_ _ | refine blk_drew ?_ | refine blk_alloc ?_ _)); exact BK183.out)) : gb184 ≠ gb183)); clear BK181; clear BK182; clear BK183; clear HB; have BK181 := n0_; have BK182 := n1_; have BK183 := n2_; have HB := n3_; have BK184 := n4_; have GW184 := n5_; have GE184 := n6_; have NB181_184 := n7_; have NB184_181 := n8_; have NB182_184 := n9_; have NB184_182 := n10_; have NB183_184 := n11_; have NB184_183 := n12_; clear n0_ n1_ n2_ n3_ n4_ n5_ n6_ n7_ n8_ n9_ n10_ n11_ n12_; clear hb hbox hg))
 have n0_ := Aside0.mk (blk_drew BK181.out)
 have n1_ := Aside0.mk (blk_drew BK182.out)
 have n2_ := Aside0.mk (blk_drew BK183.out)
 have n3_ := Aside0.mk (blk_drew BK184.out)
 have n4_ := Aside0.mk (below_drew1 HB.out)
 clear BK181
 clear BK182
 clear BK183
 clear BK184
 clear HB
 have BK181 := n0_
 have BK182 := n1_
 have BK183 := n2_
 have BK184 := n3_
 have HB := n4_
 clear n0_ n1_ n2_ n3_ n4_
 refine start_ (n := 10) (S := fun w' => w'.cell? ⟨gb181, 0, none⟩ = some (.int .i64 a0_0) ∧ w'.cell? ⟨gb181, 1, none⟩ = some (.int .i64 a0_1) ∧ w'.cell? ⟨gb182, 0, none⟩ = some (.int .i64 a1_0) ∧ w'.cell? ⟨gb182, 1, none⟩ = some (.int .i64 a1_1) ∧ w'.cell? ⟨gb183, 0, none⟩ = some (.int .i64 a2_0) ∧ w'.cell? ⟨gb183, 1, none⟩ = some (.int .i64 a2_1) ∧ w'.cell? ⟨gb184, 0, none⟩ = some (.int .i64 a3_0) ∧ w'.cell? ⟨gb184, 1, none⟩ = some (.int .i64 a3_1)) (ds := []) #[false, false, false, false, false, false, false, false, false, false] (by kernel_rfl) rfl rfl ⟨(blk_cell BK181.out 0).trans rfl, (blk_cell BK181.out 1).trans rfl, (blk_cell BK182.out 0).trans rfl, (blk_cell BK182.out 1).trans rfl, (blk_cell BK183.out 0).trans rfl, (blk_cell BK183.out 1).trans rfl, (blk_cell BK184.out 0).trans rfl, (blk_cell BK184.out 1).trans rfl⟩ (fun hHeld => ?_); refine with_tabW polygon_Common.tab1 polygon_Common.bits1 (fun HT_ HW_ => ?_)
 generalize w13.drew = w14 at BK181 BK182 BK183 BK184 HB hHeld ⊢
 refine take_ (i := 0) (N := some 13) (v := ?_) (a' := ?_) #[true, false, false, false, false, false, false, false, false, false] rfl rfl (take_ofW HT_.out HW_.out (by kernel_rfl)) (fun _ _ _ h => h) (Or.inl ⟨by rfl, ?_⟩) hHeld ?_ ?_
 rotate_left
 · rintro w' ⟨s0, s1, s2, s3, s4, s5, s6, s7⟩
   go_simp
   with_reducible rfl
 rotate_left
 · simp only [Act.put, List.setIfInBounds_toArray, List.set_cons_zero, List.set_cons_succ, i64_w, i32_w]
   rfl
 refine take_ (i := 1) (N := some 14) (v := ?_) (a' := ?_) #[true, true, false, false, false, false, false, false, false, false] rfl rfl (take_ofW HT_.out HW_.out (by kernel_rfl)) (fun _ _ _ h => h) (Or.inl ⟨by rfl, ?_⟩) hHeld ?_ ?_
 rotate_left
 · rintro w' ⟨s0, s1, s2, s3, s4, s5, s6, s7⟩
   go_simp
   with_reducible rfl
 rotate_left
 · simp only [Act.put, List.setIfInBounds_toArray, List.set_cons_zero, List.set_cons_succ, i64_w, i32_w]
   rfl
 refine take_ (i := 2) (N := some 15) (v := ?_) (a' := ?_) #[true, true, true, false, false, false, false, false, false, false] rfl rfl (take_ofW HT_.out HW_.out (by kernel_rfl)) (fun _ _ _ h => h) (Or.inl ⟨by rfl, ?_⟩) hHeld ?_ ?_
 rotate_left
 · rintro w' ⟨s0, s1, s2, s3, s4, s5, s6, s7⟩
   go_simp
   with_reducible rfl
 rotate_left
 · simp only [Act.put, List.setIfInBounds_toArray, List.set_cons_zero, List.set_cons_succ, i64_w, i32_w]
   rfl
 refine take_ (i := 4) (N := some 17) (v := ?_) (a' := ?_) #[true, true, true, false, true, false, false, false, false, false] rfl rfl (take_ofW HT_.out HW_.out (by kernel_rfl)) (fun _ _ _ h => h) (Or.inl ⟨by rfl, ?_⟩) hHeld ?_ ?_
 rotate_left
 · rintro w' ⟨s0, s1, s2, s3, s4, s5, s6, s7⟩
   go_simp
   with_reducible rfl
 rotate_left
 · simp only [Act.put, List.setIfInBounds_toArray, List.set_cons_zero, List.set_cons_succ, i64_w, i32_w]
   rfl
 refine take_ (i := 5) (N := some 18) (v := ?_) (a' := ?_) #[true, true, true, false, true, true, false, false, false, false] rfl rfl (take_ofW HT_.out HW_.out (by kernel_rfl)) (fun _ _ _ h => h) (Or.inl ⟨by rfl, ?_⟩) hHeld ?_ ?_
 rotate_left
 · rintro w' ⟨s0, s1, s2, s3, s4, s5, s6, s7⟩
   go_simp
   with_reducible rfl
 rotate_left
 · simp only [Act.put, List.setIfInBounds_toArray, List.set_cons_zero, List.set_cons_succ, i64_w, i32_w]
   rfl
 refine take_ (i := 6) (N := some 19) (v := ?_) (a' := ?_) #[true, true, true, false, true, true, true, false, false, false] rfl rfl (take_ofW HT_.out HW_.out (by kernel_rfl)) (fun _ _ _ h => h) (Or.inl ⟨by rfl, ?_⟩) hHeld ?_ ?_
 rotate_left
 · rintro w' ⟨s0, s1, s2, s3, s4, s5, s6, s7⟩
   go_simp
   with_reducible rfl
 rotate_left
 · simp only [Act.put, List.setIfInBounds_toArray, List.set_cons_zero, List.set_cons_succ, i64_w, i32_w]
   rfl
 refine one_ (i := 3) (N := some 16) #[true, true, true, true, true, true, true, false, false, false] rfl rfl (one_of HT_.out (by kernel_rfl)) (by decide) (fun K hK => ?_)
 refine goes_ Try.func106 (by kernel_rfl) rfl #[.agg #[.int .i64 a0_0, .int .i64 a0_1], .agg #[.int .i64 a1_0, .int .i64 a1_1], .agg #[.int .i64 a2_0, .int .i64 a2_1]] (by rfl) rfl rfl (by (try simp only [List.map_toArray, List.map_cons, List.map_nil]); first | done | rfl | (simp only [List.length_drop, List.length_take]; rfl)) ?_
 with_reducible refine (plane_Turn.calls a0_0 a0_1 a1_0 a1_1 a2_0 a2_1 t185 _ A5.out).mono ?_
 rintro e w15 ⟨rfl, hb⟩
 refine ⟨_, rfl, ?_⟩
 have n0_ := Aside0.mk (blk_below (g := gb181) (o := .cells #[.int .i64 a0_0, .int .i64 a0_1] 36 (0, 0)) (by (with_reducible repeat (first | refine blk_drewN ?_ _ | refine blk_drew ?_ | refine blk_alloc ?_ _)); exact BK181.out) hb)
 have n1_ := Aside0.mk (blk_below (g := gb182) (o := .cells #[.int .i64 a1_0, .int .i64 a1_1] 36 (0, 0)) (by (with_reducible repeat (first | refine blk_drewN ?_ _ | refine blk_drew ?_ | refine blk_alloc ?_ _)); exact BK182.out) hb)
 have n2_ := Aside0.mk (blk_below (g := gb183) (o := .cells #[.int .i64 a2_0, .int .i64 a2_1] 36 (0, 0)) (by (with_reducible repeat (first | refine blk_drewN ?_ _ | refine blk_drew ?_ | refine blk_alloc ?_ _)); exact BK183.out) hb)
 have n3_ := Aside0.mk (blk_below (g := gb184) (o := .cells #[.int .i64 a3_0, .int .i64 a3_1] 36 (0, 0)) (by (with_reducible repeat (first | refine blk_drewN ?_ _ | refine blk_drew ?_ | refine blk_alloc ?_ _)); exact BK184.out) hb)
 have n4_ := Aside0.mk (below_step (by repeat (first | (with_reducible first | exact HB.out | apply below_alloc | apply pw_below_drewN | apply below_drew1 | refine below_set ?_ GE181.out | refine below_set ?_ GE182.out | refine below_set ?_ GE183.out | refine below_set ?_ GE184.out) | exact HB.out)) hb)
 clear BK181
 clear BK182
 clear BK183
 clear BK184
 clear HB
 have BK181 := n0_
 have BK182 := n1_
 have BK183 := n2_
 have BK184 := n3_
 have HB := n4_
 clear n0_ n1_ n2_ n3_ n4_
 (try clear hb)
 (try clear hb2)
 (try clear hk)
 (try clear hi)
 refine hK.out _ _ ⟨(blk_cell BK181.out 0).trans rfl, (blk_cell BK181.out 1).trans rfl, (blk_cell BK182.out 0).trans rfl, (blk_cell BK182.out 1).trans rfl, (blk_cell BK183.out 0).trans rfl, (blk_cell BK183.out 1).trans rfl, (blk_cell BK184.out 0).trans rfl, (blk_cell BK184.out 1).trans rfl⟩ (fun hHeld => ?_)
 clear hK K
 refine norm_ (a' := ?_) ?_ ?_
 rotate_left
 · show Act.put _ (some 16) _ = _
   simp only [Act.put, List.setIfInBounds_toArray, List.set_cons_zero, List.set_cons_succ, i64_w, i32_w]
   rfl
 refine one_ (i := 7) (N := some 20) #[true, true, true, true, true, true, true, true, false, false] rfl rfl (one_of HT_.out (by kernel_rfl)) (by decide) (fun K hK => ?_)
 refine goes_ Try.func106 (by kernel_rfl) rfl #[.agg #[.int .i64 a0_0, .int .i64 a0_1], .agg #[.int .i64 a1_0, .int .i64 a1_1], .agg #[.int .i64 a3_0, .int .i64 a3_1]] (by rfl) rfl rfl (by (try simp only [List.map_toArray, List.map_cons, List.map_nil]); first | done | rfl | (simp only [List.length_drop, List.length_take]; rfl)) ?_
 with_reducible refine (plane_Turn.calls a0_0 a0_1 a1_0 a1_1 a3_0 a3_1 t186 _ A6.out).mono ?_
 rintro e w16 ⟨rfl, hb⟩
 refine ⟨_, rfl, ?_⟩
 have n0_ := Aside0.mk (blk_below (g := gb181) (o := .cells #[.int .i64 a0_0, .int .i64 a0_1] 36 (0, 0)) (by (with_reducible repeat (first | refine blk_drewN ?_ _ | refine blk_drew ?_ | refine blk_alloc ?_ _)); exact BK181.out) hb)
 have n1_ := Aside0.mk (blk_below (g := gb182) (o := .cells #[.int .i64 a1_0, .int .i64 a1_1] 36 (0, 0)) (by (with_reducible repeat (first | refine blk_drewN ?_ _ | refine blk_drew ?_ | refine blk_alloc ?_ _)); exact BK182.out) hb)
 have n2_ := Aside0.mk (blk_below (g := gb183) (o := .cells #[.int .i64 a2_0, .int .i64 a2_1] 36 (0, 0)) (by (with_reducible repeat (first | refine blk_drewN ?_ _ | refine blk_drew ?_ | refine blk_alloc ?_ _)); exact BK183.out) hb)
 have n3_ := Aside0.mk (blk_below (g := gb184) (o := .cells #[.int .i64 a3_0, .int .i64 a3_1] 36 (0, 0)) (by (with_reducible repeat (first | refine blk_drewN ?_ _ | refine blk_drew ?_ | refine blk_alloc ?_ _)); exact BK184.out) hb)
 have n4_ := Aside0.mk (below_step (by repeat (first | (with_reducible first | exact HB.out | apply below_alloc | apply pw_below_drewN | apply below_drew1 | refine below_set ?_ GE181.out | refine below_set ?_ GE182.out | refine below_set ?_ GE183.out | refine below_set ?_ GE184.out) | exact HB.out)) hb)
 clear BK181
 clear BK182
 clear BK183
 clear BK184
 clear HB
 have BK181 := n0_
 have BK182 := n1_
 have BK183 := n2_
 have BK184 := n3_
 have HB := n4_
 clear n0_ n1_ n2_ n3_ n4_
 (try clear hb)
 (try clear hb2)
 (try clear hk)
 (try clear hi)
 refine hK.out _ _ ⟨(blk_cell BK181.out 0).trans rfl, (blk_cell BK181.out 1).trans rfl, (blk_cell BK182.out 0).trans rfl, (blk_cell BK182.out 1).trans rfl, (blk_cell BK183.out 0).trans rfl, (blk_cell BK183.out 1).trans rfl, (blk_cell BK184.out 0).trans rfl, (blk_cell BK184.out 1).trans rfl⟩ (fun hHeld => ?_)
 clear hK K
 refine norm_ (a' := ?_) ?_ ?_
 rotate_left
 · show Act.put _ (some 20) _ = _
   simp only [Act.put, List.setIfInBounds_toArray, List.set_cons_zero, List.set_cons_succ, i64_w, i32_w]
   rfl
 refine pure_ (i := 8) (N := some 9) (v := ?_) (a' := ?_) #[true, true, true, true, true, true, true, true, true, false] rfl rfl (any_of HT_.out (by kernel_rfl)) (fun _ _ _ h => h) (Or.inl ⟨by rfl, ?_⟩) ?_ ?_
 rotate_left
 · intro w'
   go_simp
   with_reducible rfl
 rotate_left
 · simp only [Act.put, List.setIfInBounds_toArray, List.set_cons_zero, List.set_cons_succ, i64_w, i32_w]
   rfl
 refine pure_ (i := 9) (N := some 10) (v := ?_) (a' := ?_) #[true, true, true, true, true, true, true, true, true, true] rfl rfl (any_of HT_.out (by kernel_rfl)) (fun _ _ _ h => h) (Or.inl ⟨by rfl, ?_⟩) ?_ ?_
 rotate_left
 · intro w'
   go_simp
   with_reducible rfl
 rotate_left
 · simp only [Act.put, List.setIfInBounds_toArray, List.set_cons_zero, List.set_cons_succ, i64_w, i32_w]
   rfl
 refine done_ (done_of HT_.out (by kernel_rfl)) ?_
 try go_wp2
 have n0_ := Aside0.mk (blk_drew BK181.out)
 have n1_ := Aside0.mk (blk_drew BK182.out)
 have n2_ := Aside0.mk (blk_drew BK183.out)
 have n3_ := Aside0.mk (blk_drew BK184.out)
 have n4_ := Aside0.mk (below_drew1 HB.out)
 clear BK181
 clear BK182
 clear BK183
 clear BK184
 clear HB
 have BK181 := n0_
 have BK182 := n1_
 have BK183 := n2_
 have BK184 := n3_
 have HB := n4_
 clear n0_ n1_ n2_ n3_ n4_
 refine start_ (n := 10) (S := fun w' => w'.cell? ⟨gb183, 0, none⟩ = some (.int .i64 a2_0) ∧ w'.cell? ⟨gb183, 1, none⟩ = some (.int .i64 a2_1) ∧ w'.cell? ⟨gb184, 0, none⟩ = some (.int .i64 a3_0) ∧ w'.cell? ⟨gb184, 1, none⟩ = some (.int .i64 a3_1) ∧ w'.cell? ⟨gb181, 0, none⟩ = some (.int .i64 a0_0) ∧ w'.cell? ⟨gb181, 1, none⟩ = some (.int .i64 a0_1) ∧ w'.cell? ⟨gb182, 0, none⟩ = some (.int .i64 a1_0) ∧ w'.cell? ⟨gb182, 1, none⟩ = some (.int .i64 a1_1)) (ds := []) #[false, false, false, false, false, false, false, false, false, false] (by kernel_rfl) rfl rfl ⟨(blk_cell BK183.out 0).trans rfl, (blk_cell BK183.out 1).trans rfl, (blk_cell BK184.out 0).trans rfl, (blk_cell BK184.out 1).trans rfl, (blk_cell BK181.out 0).trans rfl, (blk_cell BK181.out 1).trans rfl, (blk_cell BK182.out 0).trans rfl, (blk_cell BK182.out 1).trans rfl⟩ (fun hHeld => ?_); refine with_tabW polygon_Common.tab2 polygon_Common.bits2 (fun HT_ HW_ => ?_)
 generalize w16.drew = w17 at BK181 BK182 BK183 BK184 HB hHeld ⊢
 refine take_ (i := 0) (N := some 21) (v := ?_) (a' := ?_) #[true, false, false, false, false, false, false, false, false, false] rfl rfl (take_ofW HT_.out HW_.out (by kernel_rfl)) (fun _ _ _ h => h) (Or.inl ⟨by rfl, ?_⟩) hHeld ?_ ?_
 rotate_left
 · rintro w' ⟨s0, s1, s2, s3, s4, s5, s6, s7⟩
   go_simp
   with_reducible rfl
 rotate_left
 · simp only [Act.put, List.setIfInBounds_toArray, List.set_cons_zero, List.set_cons_succ, i64_w, i32_w]
   rfl
 refine take_ (i := 1) (N := some 22) (v := ?_) (a' := ?_) #[true, true, false, false, false, false, false, false, false, false] rfl rfl (take_ofW HT_.out HW_.out (by kernel_rfl)) (fun _ _ _ h => h) (Or.inl ⟨by rfl, ?_⟩) hHeld ?_ ?_
 rotate_left
 · rintro w' ⟨s0, s1, s2, s3, s4, s5, s6, s7⟩
   go_simp
   with_reducible rfl
 rotate_left
 · simp only [Act.put, List.setIfInBounds_toArray, List.set_cons_zero, List.set_cons_succ, i64_w, i32_w]
   rfl
 refine take_ (i := 2) (N := some 23) (v := ?_) (a' := ?_) #[true, true, true, false, false, false, false, false, false, false] rfl rfl (take_ofW HT_.out HW_.out (by kernel_rfl)) (fun _ _ _ h => h) (Or.inl ⟨by rfl, ?_⟩) hHeld ?_ ?_
 rotate_left
 · rintro w' ⟨s0, s1, s2, s3, s4, s5, s6, s7⟩
   go_simp
   with_reducible rfl
 rotate_left
 · simp only [Act.put, List.setIfInBounds_toArray, List.set_cons_zero, List.set_cons_succ, i64_w, i32_w]
   rfl
 refine take_ (i := 4) (N := some 25) (v := ?_) (a' := ?_) #[true, true, true, false, true, false, false, false, false, false] rfl rfl (take_ofW HT_.out HW_.out (by kernel_rfl)) (fun _ _ _ h => h) (Or.inl ⟨by rfl, ?_⟩) hHeld ?_ ?_
 rotate_left
 · rintro w' ⟨s0, s1, s2, s3, s4, s5, s6, s7⟩
   go_simp
   with_reducible rfl
 rotate_left
 · simp only [Act.put, List.setIfInBounds_toArray, List.set_cons_zero, List.set_cons_succ, i64_w, i32_w]
   rfl
 refine take_ (i := 5) (N := some 26) (v := ?_) (a' := ?_) #[true, true, true, false, true, true, false, false, false, false] rfl rfl (take_ofW HT_.out HW_.out (by kernel_rfl)) (fun _ _ _ h => h) (Or.inl ⟨by rfl, ?_⟩) hHeld ?_ ?_
 rotate_left
 · rintro w' ⟨s0, s1, s2, s3, s4, s5, s6, s7⟩
   go_simp
   with_reducible rfl
 rotate_left
 · simp only [Act.put, List.setIfInBounds_toArray, List.set_cons_zero, List.set_cons_succ, i64_w, i32_w]
   rfl
 refine take_ (i := 6) (N := some 27) (v := ?_) (a' := ?_) #[true, true, true, false, true, true, true, false, false, false] rfl rfl (take_ofW HT_.out HW_.out (by kernel_rfl)) (fun _ _ _ h => h) (Or.inl ⟨by rfl, ?_⟩) hHeld ?_ ?_
 rotate_left
 · rintro w' ⟨s0, s1, s2, s3, s4, s5, s6, s7⟩
   go_simp
   with_reducible rfl
 rotate_left
 · simp only [Act.put, List.setIfInBounds_toArray, List.set_cons_zero, List.set_cons_succ, i64_w, i32_w]
   rfl
 refine one_ (i := 3) (N := some 24) #[true, true, true, true, true, true, true, false, false, false] rfl rfl (one_of HT_.out (by kernel_rfl)) (by decide) (fun K hK => ?_)
 refine goes_ Try.func106 (by kernel_rfl) rfl #[.agg #[.int .i64 a2_0, .int .i64 a2_1], .agg #[.int .i64 a3_0, .int .i64 a3_1], .agg #[.int .i64 a0_0, .int .i64 a0_1]] (by rfl) rfl rfl (by (try simp only [List.map_toArray, List.map_cons, List.map_nil]); first | done | rfl | (simp only [List.length_drop, List.length_take]; rfl)) ?_
 with_reducible refine (plane_Turn.calls a2_0 a2_1 a3_0 a3_1 a0_0 a0_1 t187 _ A7.out).mono ?_
 rintro e w18 ⟨rfl, hb⟩
 refine ⟨_, rfl, ?_⟩
 have n0_ := Aside0.mk (blk_below (g := gb181) (o := .cells #[.int .i64 a0_0, .int .i64 a0_1] 36 (0, 0)) (by (with_reducible repeat (first | refine blk_drewN ?_ _ | refine blk_drew ?_ | refine blk_alloc ?_ _)); exact BK181.out) hb)
 have n1_ := Aside0.mk (blk_below (g := gb182) (o := .cells #[.int .i64 a1_0, .int .i64 a1_1] 36 (0, 0)) (by (with_reducible repeat (first | refine blk_drewN ?_ _ | refine blk_drew ?_ | refine blk_alloc ?_ _)); exact BK182.out) hb)
 have n2_ := Aside0.mk (blk_below (g := gb183) (o := .cells #[.int .i64 a2_0, .int .i64 a2_1] 36 (0, 0)) (by (with_reducible repeat (first | refine blk_drewN ?_ _ | refine blk_drew ?_ | refine blk_alloc ?_ _)); exact BK183.out) hb)
 have n3_ := Aside0.mk (blk_below (g := gb184) (o := .cells #[.int .i64 a3_0, .int .i64 a3_1] 36 (0, 0)) (by (with_reducible repeat (first | refine blk_drewN ?_ _ | refine blk_drew ?_ | refine blk_alloc ?_ _)); exact BK184.out) hb)
 have n4_ := Aside0.mk (below_step (by repeat (first | (with_reducible first | exact HB.out | apply below_alloc | apply pw_below_drewN | apply below_drew1 | refine below_set ?_ GE181.out | refine below_set ?_ GE182.out | refine below_set ?_ GE183.out | refine below_set ?_ GE184.out) | exact HB.out)) hb)
 clear BK181
 clear BK182
 clear BK183
 clear BK184
 clear HB
 have BK181 := n0_
 have BK182 := n1_
 have BK183 := n2_
 have BK184 := n3_
 have HB := n4_
 clear n0_ n1_ n2_ n3_ n4_
 (try clear hb)
 (try clear hb2)
 (try clear hk)
 (try clear hi)
 refine hK.out _ _ ⟨(blk_cell BK183.out 0).trans rfl, (blk_cell BK183.out 1).trans rfl, (blk_cell BK184.out 0).trans rfl, (blk_cell BK184.out 1).trans rfl, (blk_cell BK181.out 0).trans rfl, (blk_cell BK181.out 1).trans rfl, (blk_cell BK182.out 0).trans rfl, (blk_cell BK182.out 1).trans rfl⟩ (fun hHeld => ?_)
 clear hK K
 refine norm_ (a' := ?_) ?_ ?_
 rotate_left
 · show Act.put _ (some 24) _ = _
   simp only [Act.put, List.setIfInBounds_toArray, List.set_cons_zero, List.set_cons_succ, i64_w, i32_w]
   rfl
 refine one_ (i := 7) (N := some 28) #[true, true, true, true, true, true, true, true, false, false] rfl rfl (one_of HT_.out (by kernel_rfl)) (by decide) (fun K hK => ?_)
 refine goes_ Try.func106 (by kernel_rfl) rfl #[.agg #[.int .i64 a2_0, .int .i64 a2_1], .agg #[.int .i64 a3_0, .int .i64 a3_1], .agg #[.int .i64 a1_0, .int .i64 a1_1]] (by rfl) rfl rfl (by (try simp only [List.map_toArray, List.map_cons, List.map_nil]); first | done | rfl | (simp only [List.length_drop, List.length_take]; rfl)) ?_
 with_reducible refine (plane_Turn.calls a2_0 a2_1 a3_0 a3_1 a1_0 a1_1 t188 _ A8.out).mono ?_
 rintro e w19 ⟨rfl, hb⟩
 refine ⟨_, rfl, ?_⟩
 have n0_ := Aside0.mk (blk_below (g := gb181) (o := .cells #[.int .i64 a0_0, .int .i64 a0_1] 36 (0, 0)) (by (with_reducible repeat (first | refine blk_drewN ?_ _ | refine blk_drew ?_ | refine blk_alloc ?_ _)); exact BK181.out) hb)
 have n1_ := Aside0.mk (blk_below (g := gb182) (o := .cells #[.int .i64 a1_0, .int .i64 a1_1] 36 (0, 0)) (by (with_reducible repeat (first | refine blk_drewN ?_ _ | refine blk_drew ?_ | refine blk_alloc ?_ _)); exact BK182.out) hb)
 have n2_ := Aside0.mk (blk_below (g := gb183) (o := .cells #[.int .i64 a2_0, .int .i64 a2_1] 36 (0, 0)) (by (with_reducible repeat (first | refine blk_drewN ?_ _ | refine blk_drew ?_ | refine blk_alloc ?_ _)); exact BK183.out) hb)
 have n3_ := Aside0.mk (blk_below (g := gb184) (o := .cells #[.int .i64 a3_0, .int .i64 a3_1] 36 (0, 0)) (by (with_reducible repeat (first | refine blk_drewN ?_ _ | refine blk_drew ?_ | refine blk_alloc ?_ _)); exact BK184.out) hb)
 have n4_ := Aside0.mk (below_step (by repeat (first | (with_reducible first | exact HB.out | apply below_alloc | apply pw_below_drewN | apply below_drew1 | refine below_set ?_ GE181.out | refine below_set ?_ GE182.out | refine below_set ?_ GE183.out | refine below_set ?_ GE184.out) | exact HB.out)) hb)
 clear BK181
 clear BK182
 clear BK183
 clear BK184
 clear HB
 have BK181 := n0_
 have BK182 := n1_
 have BK183 := n2_
 have BK184 := n3_
 have HB := n4_
 clear n0_ n1_ n2_ n3_ n4_
 (try clear hb)
 (try clear hb2)
 (try clear hk)
 (try clear hi)
 refine hK.out _ _ ⟨(blk_cell BK183.out 0).trans rfl, (blk_cell BK183.out 1).trans rfl, (blk_cell BK184.out 0).trans rfl, (blk_cell BK184.out 1).trans rfl, (blk_cell BK181.out 0).trans rfl, (blk_cell BK181.out 1).trans rfl, (blk_cell BK182.out 0).trans rfl, (blk_cell BK182.out 1).trans rfl⟩ (fun hHeld => ?_)
 clear hK K
 refine norm_ (a' := ?_) ?_ ?_
 rotate_left
 · show Act.put _ (some 28) _ = _
   simp only [Act.put, List.setIfInBounds_toArray, List.set_cons_zero, List.set_cons_succ, i64_w, i32_w]
   rfl
 refine pure_ (i := 8) (N := some 11) (v := ?_) (a' := ?_) #[true, true, true, true, true, true, true, true, true, false] rfl rfl (any_of HT_.out (by kernel_rfl)) (fun _ _ _ h => h) (Or.inl ⟨by rfl, ?_⟩) ?_ ?_
 rotate_left
 · intro w'
   go_simp
   with_reducible rfl
 rotate_left
 · simp only [Act.put, List.setIfInBounds_toArray, List.set_cons_zero, List.set_cons_succ, i64_w, i32_w]
   rfl
 refine pure_ (i := 9) (N := some 12) (v := ?_) (a' := ?_) #[true, true, true, true, true, true, true, true, true, true] rfl rfl (any_of HT_.out (by kernel_rfl)) (fun _ _ _ h => h) (Or.inl ⟨by rfl, ?_⟩) ?_ ?_
 rotate_left
 · intro w'
   go_simp
   with_reducible rfl
 rotate_left
 · simp only [Act.put, List.setIfInBounds_toArray, List.set_cons_zero, List.set_cons_succ, i64_w, i32_w]
   rfl
 refine done_ (done_of HT_.out (by kernel_rfl)) ?_
 go_upto_region 3 with (fail)
 go_cut [38] (fun v38 wc => ∃ (kq : Nat) (x38_8 : Bool), v38 = .bool x38_8 ∧ Aside0 (polygon_Common.j0 kq t185 t186 t187 t188 x38_8 a0_0 a0_1 a1_0 a1_1 a2_0 a2_1 a3_0 a3_1 = some r) ∧ Aside0 (kq ≤ k) ∧ Aside0 (wc.heap[gb181]? = some (.cells #[.int .i64 a0_0, .int .i64 a0_1] 36 (0, 0))) ∧ Aside0 (wc.heap[gb182]? = some (.cells #[.int .i64 a1_0, .int .i64 a1_1] 36 (0, 0))) ∧ Aside0 (wc.heap[gb183]? = some (.cells #[.int .i64 a2_0, .int .i64 a2_1] 36 (0, 0))) ∧ Aside0 (wc.heap[gb184]? = some (.cells #[.int .i64 a3_0, .int .i64 a3_1] 36 (0, 0))) ∧ Aside0 (Below w.heap.size w wc))
 case first =>
  have H := HC9.out
  clear HC9
  refine Or.elim (Classical.em ((wrap64 (t185 * t186)) < 0)) (fun c20 => ?p2_) (fun c20 => ?n2_)
  case' p2_ =>
   rw [if_pos c20] at H
   have c20b0 : decide ((wrap64 (t185 * t186)) < 0) = true := decide_eq_true c20
   clear c20
   (first | rw [c20b0] | (simp only [i64_w, i32_w]; rw [c20b0]) | skip)
  case' n2_ =>
   rw [if_neg c20] at H
   have c20b0 : decide ((wrap64 (t185 * t186)) < 0) = false := decide_eq_false c20
   clear c20
   (first | rw [c20b0] | (simp only [i64_w, i32_w]; rw [c20b0]) | skip)
  all_goals
   have H' := Aside0.mk H
   clear H
   go_wp2
   go_meet
   case rel => first | (exact ⟨_, (decide ((wrap64 (t187 * t188)) < 0)), (by first | rfl | (simp; done) | (simp [*]; done)), H', ⟨by first | omega | exact Nat.le_refl _⟩, ⟨by (with_reducible repeat (first | refine blk_drewN ?_ _ | refine blk_drew ?_ | refine blk_alloc ?_ _)); exact BK181.out⟩, ⟨by (with_reducible repeat (first | refine blk_drewN ?_ _ | refine blk_drew ?_ | refine blk_alloc ?_ _)); exact BK182.out⟩, ⟨by (with_reducible repeat (first | refine blk_drewN ?_ _ | refine blk_drew ?_ | refine blk_alloc ?_ _)); exact BK183.out⟩, ⟨by (with_reducible repeat (first | refine blk_drewN ?_ _ | refine blk_drew ?_ | refine blk_alloc ?_ _)); exact BK184.out⟩, ⟨by repeat (first | (with_reducible first | exact HB.out | apply below_alloc | apply pw_below_drewN | apply below_drew1 | refine below_set ?_ GE181.out | refine below_set ?_ GE182.out | refine below_set ?_ GE183.out | refine below_set ?_ GE184.out) | exact HB.out)⟩⟩) | (exact ⟨_, (false), (by first | rfl | (simp; done) | (simp [*]; done)), H', ⟨by first | omega | exact Nat.le_refl _⟩, ⟨by (with_reducible repeat (first | refine blk_drewN ?_ _ | refine blk_drew ?_ | refine blk_alloc ?_ _)); exact BK181.out⟩, ⟨by (with_reducible repeat (first | refine blk_drewN ?_ _ | refine blk_drew ?_ | refine blk_alloc ?_ _)); exact BK182.out⟩, ⟨by (with_reducible repeat (first | refine blk_drewN ?_ _ | refine blk_drew ?_ | refine blk_alloc ?_ _)); exact BK183.out⟩, ⟨by (with_reducible repeat (first | refine blk_drewN ?_ _ | refine blk_drew ?_ | refine blk_alloc ?_ _)); exact BK184.out⟩, ⟨by repeat (first | (with_reducible first | exact HB.out | apply below_alloc | apply pw_below_drewN | apply below_drew1 | refine below_set ?_ GE181.out | refine below_set ?_ GE182.out | refine below_set ?_ GE183.out | refine below_set ?_ GE184.out) | exact HB.out)⟩⟩)
 case rest =>
  clear HC9
  (try clear c1); (try clear c2); (try clear p2); (try clear p6); (try clear c10); (try clear c20); (try clear c20b0)
  obtain ⟨kq, x38_8, rfl, HA, HJ8, BK181, BK182, BK183, BK184, HB⟩ := hcut
  cases kq with
  | zero => exact absurd HA.out (by simp [polygon_Common.j0])
  | succ kj8 =>
   have H := HA.out
   clear HA
   simp only [polygon_Common.j0] at H
   refine Or.elim (Classical.em (x38_8 = true)) (fun c21 => ?p4_) (fun c21 => ?n4_)
   case' p4_ =>
    subst c21
    have H1 : (some true) = some r := by rw [if_pos rfl] at H; exact H
    clear H
    have H := H1
    clear H1
    have hm3_0 := Aside0.mk trivial
   case' n4_ =>
    replace c21 := Bool.eq_false_iff.mpr c21
    subst c21
    have H1 : (if t185 = 0 then ((polygon_on.f a0_0 a0_1 a1_0 a1_1 a2_0 a2_1).bind fun t189 => (if t189 = true then (some true) else (if t186 = 0 then ((polygon_on.f a0_0 a0_1 a1_0 a1_1 a3_0 a3_1).bind fun t190 => (if t190 = true then (some true) else (if t187 = 0 then ((polygon_on.f a2_0 a2_1 a3_0 a3_1 a0_0 a0_1).bind fun t191 => (if t191 = true then (some true) else (if t188 = 0 then ((polygon_on.f a2_0 a2_1 a3_0 a3_1 a1_0 a1_1).bind fun t192 => (some t192)) else (some false)))) else (if t188 = 0 then ((polygon_on.f a2_0 a2_1 a3_0 a3_1 a1_0 a1_1).bind fun t193 => (some t193)) else (some false))))) else (if t187 = 0 then ((polygon_on.f a2_0 a2_1 a3_0 a3_1 a0_0 a0_1).bind fun t194 => (if t194 = true then (some true) else (if t188 = 0 then ((polygon_on.f a2_0 a2_1 a3_0 a3_1 a1_0 a1_1).bind fun t195 => (some t195)) else (some false)))) else (if t188 = 0 then ((polygon_on.f a2_0 a2_1 a3_0 a3_1 a1_0 a1_1).bind fun t196 => (some t196)) else (some false)))))) else (if t186 = 0 then ((polygon_on.f a0_0 a0_1 a1_0 a1_1 a3_0 a3_1).bind fun t197 => (if t197 = true then (some true) else (if t187 = 0 then ((polygon_on.f a2_0 a2_1 a3_0 a3_1 a0_0 a0_1).bind fun t198 => (if t198 = true then (some true) else (if t188 = 0 then ((polygon_on.f a2_0 a2_1 a3_0 a3_1 a1_0 a1_1).bind fun t199 => (some t199)) else (some false)))) else (if t188 = 0 then ((polygon_on.f a2_0 a2_1 a3_0 a3_1 a1_0 a1_1).bind fun t200 => (some t200)) else (some false))))) else (if t187 = 0 then ((polygon_on.f a2_0 a2_1 a3_0 a3_1 a0_0 a0_1).bind fun t201 => (if t201 = true then (some true) else (if t188 = 0 then ((polygon_on.f a2_0 a2_1 a3_0 a3_1 a1_0 a1_1).bind fun t202 => (some t202)) else (some false)))) else (if t188 = 0 then ((polygon_on.f a2_0 a2_1 a3_0 a3_1 a1_0 a1_1).bind fun t203 => (some t203)) else (some false))))) = some r := by rw [if_neg (show ¬ (false = true) by decide)] at H; exact H
    clear H
    have H := H1
    clear H1
    refine Or.elim (Classical.em (t185 = 0)) (fun c22 => ?p5_) (fun c22 => ?n5_)
    case' p5_ =>
     rw [if_pos c22] at H
     have c22b0 : (t185 == 0) = true := beq_iff_eq.mpr c22
     have c22b1 : (t185 != 0) = false := bne_eq_false_iff_eq.mpr c22
     clear c22
     replace H := Option.bind_eq_some_iff.mp H
     obtain ⟨t189, A230, H⟩ := H
     replace H : (if t189 = true then (some true) else (if t186 = 0 then ((polygon_on.f a0_0 a0_1 a1_0 a1_1 a3_0 a3_1).bind fun t190 => (if t190 = true then (some true) else (if t187 = 0 then ((polygon_on.f a2_0 a2_1 a3_0 a3_1 a0_0 a0_1).bind fun t191 => (if t191 = true then (some true) else (if t188 = 0 then ((polygon_on.f a2_0 a2_1 a3_0 a3_1 a1_0 a1_1).bind fun t192 => (some t192)) else (some false)))) else (if t188 = 0 then ((polygon_on.f a2_0 a2_1 a3_0 a3_1 a1_0 a1_1).bind fun t193 => (some t193)) else (some false))))) else (if t187 = 0 then ((polygon_on.f a2_0 a2_1 a3_0 a3_1 a0_0 a0_1).bind fun t194 => (if t194 = true then (some true) else (if t188 = 0 then ((polygon_on.f a2_0 a2_1 a3_0 a3_1 a1_0 a1_1).bind fun t195 => (some t195)) else (some false)))) else (if t188 = 0 then ((polygon_on.f a2_0 a2_1 a3_0 a3_1 a1_0 a1_1).bind fun t196 => (some t196)) else (some false))))) = some r := H
     have A23 := Aside0.mk A230
     clear A230
     refine Or.elim (Classical.em (t189 = true)) (fun c24 => ?p6_) (fun c24 => ?n6_)
     case' p6_ =>
      subst c24
      have H1 : (some true) = some r := by rw [if_pos rfl] at H; exact H
      clear H
      have H := H1
      clear H1
      have hm3_1 := Aside0.mk trivial
     case' n6_ =>
      replace c24 := Bool.eq_false_iff.mpr c24
      subst c24
      have H1 : (if t186 = 0 then ((polygon_on.f a0_0 a0_1 a1_0 a1_1 a3_0 a3_1).bind fun t190 => (if t190 = true then (some true) else (if t187 = 0 then ((polygon_on.f a2_0 a2_1 a3_0 a3_1 a0_0 a0_1).bind fun t191 => (if t191 = true then (some true) else (if t188 = 0 then ((polygon_on.f a2_0 a2_1 a3_0 a3_1 a1_0 a1_1).bind fun t192 => (some t192)) else (some false)))) else (if t188 = 0 then ((polygon_on.f a2_0 a2_1 a3_0 a3_1 a1_0 a1_1).bind fun t193 => (some t193)) else (some false))))) else (if t187 = 0 then ((polygon_on.f a2_0 a2_1 a3_0 a3_1 a0_0 a0_1).bind fun t194 => (if t194 = true then (some true) else (if t188 = 0 then ((polygon_on.f a2_0 a2_1 a3_0 a3_1 a1_0 a1_1).bind fun t195 => (some t195)) else (some false)))) else (if t188 = 0 then ((polygon_on.f a2_0 a2_1 a3_0 a3_1 a1_0 a1_1).bind fun t196 => (some t196)) else (some false)))) = some r := by rw [if_neg (show ¬ (false = true) by decide)] at H; exact H
      clear H
      have H := H1
      clear H1
      refine Or.elim (Classical.em (t186 = 0)) (fun c35 => ?p7_) (fun c35 => ?n7_)
      case' p7_ =>
       rw [if_pos c35] at H
       have c35b0 : (t186 == 0) = true := beq_iff_eq.mpr c35
       have c35b1 : (t186 != 0) = false := bne_eq_false_iff_eq.mpr c35
       clear c35
       replace H := Option.bind_eq_some_iff.mp H
       obtain ⟨t190, A360, H⟩ := H
       replace H : (if t190 = true then (some true) else (if t187 = 0 then ((polygon_on.f a2_0 a2_1 a3_0 a3_1 a0_0 a0_1).bind fun t191 => (if t191 = true then (some true) else (if t188 = 0 then ((polygon_on.f a2_0 a2_1 a3_0 a3_1 a1_0 a1_1).bind fun t192 => (some t192)) else (some false)))) else (if t188 = 0 then ((polygon_on.f a2_0 a2_1 a3_0 a3_1 a1_0 a1_1).bind fun t193 => (some t193)) else (some false)))) = some r := H
       have A36 := Aside0.mk A360
       clear A360
       refine Or.elim (Classical.em (t190 = true)) (fun c37 => ?p8_) (fun c37 => ?n8_)
       case' p8_ =>
        subst c37
        have H1 : (some true) = some r := by rw [if_pos rfl] at H; exact H
        clear H
        have H := H1
        clear H1
        have hm3_1 := Aside0.mk trivial
       case' n8_ =>
        replace c37 := Bool.eq_false_iff.mpr c37
        subst c37
        have H1 : (if t187 = 0 then ((polygon_on.f a2_0 a2_1 a3_0 a3_1 a0_0 a0_1).bind fun t191 => (if t191 = true then (some true) else (if t188 = 0 then ((polygon_on.f a2_0 a2_1 a3_0 a3_1 a1_0 a1_1).bind fun t192 => (some t192)) else (some false)))) else (if t188 = 0 then ((polygon_on.f a2_0 a2_1 a3_0 a3_1 a1_0 a1_1).bind fun t193 => (some t193)) else (some false))) = some r := by rw [if_neg (show ¬ (false = true) by decide)] at H; exact H
        clear H
        have H := H1
        clear H1
        refine Or.elim (Classical.em (t187 = 0)) (fun c52 => ?p9_) (fun c52 => ?n9_)
        case' p9_ =>
         rw [if_pos c52] at H
         have c52b0 : (t187 == 0) = true := beq_iff_eq.mpr c52
         have c52b1 : (t187 != 0) = false := bne_eq_false_iff_eq.mpr c52
         clear c52
         replace H := Option.bind_eq_some_iff.mp H
         obtain ⟨t191, A530, H⟩ := H
         replace H : (if t191 = true then (some true) else (if t188 = 0 then ((polygon_on.f a2_0 a2_1 a3_0 a3_1 a1_0 a1_1).bind fun t192 => (some t192)) else (some false))) = some r := H
         have A53 := Aside0.mk A530
         clear A530
         refine Or.elim (Classical.em (t191 = true)) (fun c54 => ?p10_) (fun c54 => ?n10_)
         case' p10_ =>
          subst c54
          have H1 : (some true) = some r := by rw [if_pos rfl] at H; exact H
          clear H
          have H := H1
          clear H1
          have hm3_1 := Aside0.mk trivial
         case' n10_ =>
          replace c54 := Bool.eq_false_iff.mpr c54
          subst c54
          have H1 : (if t188 = 0 then ((polygon_on.f a2_0 a2_1 a3_0 a3_1 a1_0 a1_1).bind fun t192 => (some t192)) else (some false)) = some r := by rw [if_neg (show ¬ (false = true) by decide)] at H; exact H
          clear H
          have H := H1
          clear H1
          refine Or.elim (Classical.em (t188 = 0)) (fun c73 => ?p11_) (fun c73 => ?n11_)
          case' p11_ =>
           rw [if_pos c73] at H
           have c73b0 : (t188 == 0) = true := beq_iff_eq.mpr c73
           have c73b1 : (t188 != 0) = false := bne_eq_false_iff_eq.mpr c73
           clear c73
           replace H := Option.bind_eq_some_iff.mp H
           obtain ⟨t192, A740, H⟩ := H
           replace H : (some t192) = some r := H
           have A74 := Aside0.mk A740
           clear A740
           have hm3_1 := Aside0.mk trivial
          case' n11_ =>
           rw [if_neg c73] at H
           have c73b0 : (t188 == 0) = false := beq_eq_false_iff_ne.mpr c73
           have c73b1 : (t188 != 0) = true := bne_iff_ne.mpr c73
           have hm3_1 := Aside0.mk trivial
        case' n9_ =>
         rw [if_neg c52] at H
         have c52b0 : (t187 == 0) = false := beq_eq_false_iff_ne.mpr c52
         have c52b1 : (t187 != 0) = true := bne_iff_ne.mpr c52
         refine Or.elim (Classical.em (t188 = 0)) (fun c115 => ?p12_) (fun c115 => ?n12_)
         case' p12_ =>
          rw [if_pos c115] at H
          have c115b0 : (t188 == 0) = true := beq_iff_eq.mpr c115
          have c115b1 : (t188 != 0) = false := bne_eq_false_iff_eq.mpr c115
          clear c115
          replace H := Option.bind_eq_some_iff.mp H
          obtain ⟨t193, A1160, H⟩ := H
          replace H : (some t193) = some r := H
          have A116 := Aside0.mk A1160
          clear A1160
          have hm3_1 := Aside0.mk trivial
         case' n12_ =>
          rw [if_neg c115] at H
          have c115b0 : (t188 == 0) = false := beq_eq_false_iff_ne.mpr c115
          have c115b1 : (t188 != 0) = true := bne_iff_ne.mpr c115
          have hm3_1 := Aside0.mk trivial
      case' n7_ =>
       rw [if_neg c35] at H
       have c35b0 : (t186 == 0) = false := beq_eq_false_iff_ne.mpr c35
       have c35b1 : (t186 != 0) = true := bne_iff_ne.mpr c35
       refine Or.elim (Classical.em (t187 = 0)) (fun c149 => ?p13_) (fun c149 => ?n13_)
       case' p13_ =>
        rw [if_pos c149] at H
        have c149b0 : (t187 == 0) = true := beq_iff_eq.mpr c149
        have c149b1 : (t187 != 0) = false := bne_eq_false_iff_eq.mpr c149
        clear c149
        replace H := Option.bind_eq_some_iff.mp H
        obtain ⟨t194, A1500, H⟩ := H
        replace H : (if t194 = true then (some true) else (if t188 = 0 then ((polygon_on.f a2_0 a2_1 a3_0 a3_1 a1_0 a1_1).bind fun t195 => (some t195)) else (some false))) = some r := H
        have A150 := Aside0.mk A1500
        clear A1500
        refine Or.elim (Classical.em (t194 = true)) (fun c151 => ?p14_) (fun c151 => ?n14_)
        case' p14_ =>
         subst c151
         have H1 : (some true) = some r := by rw [if_pos rfl] at H; exact H
         clear H
         have H := H1
         clear H1
         have hm3_1 := Aside0.mk trivial
        case' n14_ =>
         replace c151 := Bool.eq_false_iff.mpr c151
         subst c151
         have H1 : (if t188 = 0 then ((polygon_on.f a2_0 a2_1 a3_0 a3_1 a1_0 a1_1).bind fun t195 => (some t195)) else (some false)) = some r := by rw [if_neg (show ¬ (false = true) by decide)] at H; exact H
         clear H
         have H := H1
         clear H1
         refine Or.elim (Classical.em (t188 = 0)) (fun c166 => ?p15_) (fun c166 => ?n15_)
         case' p15_ =>
          rw [if_pos c166] at H
          have c166b0 : (t188 == 0) = true := beq_iff_eq.mpr c166
          have c166b1 : (t188 != 0) = false := bne_eq_false_iff_eq.mpr c166
          clear c166
          replace H := Option.bind_eq_some_iff.mp H
          obtain ⟨t195, A1670, H⟩ := H
          replace H : (some t195) = some r := H
          have A167 := Aside0.mk A1670
          clear A1670
          have hm3_1 := Aside0.mk trivial
         case' n15_ =>
          rw [if_neg c166] at H
          have c166b0 : (t188 == 0) = false := beq_eq_false_iff_ne.mpr c166
          have c166b1 : (t188 != 0) = true := bne_iff_ne.mpr c166
          have hm3_1 := Aside0.mk trivial
       case' n13_ =>
        rw [if_neg c149] at H
        have c149b0 : (t187 == 0) = false := beq_eq_false_iff_ne.mpr c149
        have c149b1 : (t187 != 0) = true := bne_iff_ne.mpr c149
        refine Or.elim (Classical.em (t188 = 0)) (fun c200 => ?p16_) (fun c200 => ?n16_)
        case' p16_ =>
         rw [if_pos c200] at H
         have c200b0 : (t188 == 0) = true := beq_iff_eq.mpr c200
         have c200b1 : (t188 != 0) = false := bne_eq_false_iff_eq.mpr c200
         clear c200
         replace H := Option.bind_eq_some_iff.mp H
         obtain ⟨t196, A2010, H⟩ := H
         replace H : (some t196) = some r := H
         have A201 := Aside0.mk A2010
         clear A2010
         have hm3_1 := Aside0.mk trivial
        case' n16_ =>
         rw [if_neg c200] at H
         have c200b0 : (t188 == 0) = false := beq_eq_false_iff_ne.mpr c200
         have c200b1 : (t188 != 0) = true := bne_iff_ne.mpr c200
         have hm3_1 := Aside0.mk trivial
    case' n5_ =>
     rw [if_neg c22] at H
     have c22b0 : (t185 == 0) = false := beq_eq_false_iff_ne.mpr c22
     have c22b1 : (t185 != 0) = true := bne_iff_ne.mpr c22
     refine Or.elim (Classical.em (t186 = 0)) (fun c226 => ?p17_) (fun c226 => ?n17_)
     case' p17_ =>
      rw [if_pos c226] at H
      have c226b0 : (t186 == 0) = true := beq_iff_eq.mpr c226
      have c226b1 : (t186 != 0) = false := bne_eq_false_iff_eq.mpr c226
      clear c226
      replace H := Option.bind_eq_some_iff.mp H
      obtain ⟨t197, A2270, H⟩ := H
      replace H : (if t197 = true then (some true) else (if t187 = 0 then ((polygon_on.f a2_0 a2_1 a3_0 a3_1 a0_0 a0_1).bind fun t198 => (if t198 = true then (some true) else (if t188 = 0 then ((polygon_on.f a2_0 a2_1 a3_0 a3_1 a1_0 a1_1).bind fun t199 => (some t199)) else (some false)))) else (if t188 = 0 then ((polygon_on.f a2_0 a2_1 a3_0 a3_1 a1_0 a1_1).bind fun t200 => (some t200)) else (some false)))) = some r := H
      have A227 := Aside0.mk A2270
      clear A2270
      refine Or.elim (Classical.em (t197 = true)) (fun c228 => ?p18_) (fun c228 => ?n18_)
      case' p18_ =>
       subst c228
       have H1 : (some true) = some r := by rw [if_pos rfl] at H; exact H
       clear H
       have H := H1
       clear H1
       have hm3_2 := Aside0.mk trivial
      case' n18_ =>
       replace c228 := Bool.eq_false_iff.mpr c228
       subst c228
       have H1 : (if t187 = 0 then ((polygon_on.f a2_0 a2_1 a3_0 a3_1 a0_0 a0_1).bind fun t198 => (if t198 = true then (some true) else (if t188 = 0 then ((polygon_on.f a2_0 a2_1 a3_0 a3_1 a1_0 a1_1).bind fun t199 => (some t199)) else (some false)))) else (if t188 = 0 then ((polygon_on.f a2_0 a2_1 a3_0 a3_1 a1_0 a1_1).bind fun t200 => (some t200)) else (some false))) = some r := by rw [if_neg (show ¬ (false = true) by decide)] at H; exact H
       clear H
       have H := H1
       clear H1
       refine Or.elim (Classical.em (t187 = 0)) (fun c239 => ?p19_) (fun c239 => ?n19_)
       case' p19_ =>
        rw [if_pos c239] at H
        have c239b0 : (t187 == 0) = true := beq_iff_eq.mpr c239
        have c239b1 : (t187 != 0) = false := bne_eq_false_iff_eq.mpr c239
        clear c239
        replace H := Option.bind_eq_some_iff.mp H
        obtain ⟨t198, A2400, H⟩ := H
        replace H : (if t198 = true then (some true) else (if t188 = 0 then ((polygon_on.f a2_0 a2_1 a3_0 a3_1 a1_0 a1_1).bind fun t199 => (some t199)) else (some false))) = some r := H
        have A240 := Aside0.mk A2400
        clear A2400
        refine Or.elim (Classical.em (t198 = true)) (fun c241 => ?p20_) (fun c241 => ?n20_)
        case' p20_ =>
         subst c241
         have H1 : (some true) = some r := by rw [if_pos rfl] at H; exact H
         clear H
         have H := H1
         clear H1
         have hm3_2 := Aside0.mk trivial
        case' n20_ =>
         replace c241 := Bool.eq_false_iff.mpr c241
         subst c241
         have H1 : (if t188 = 0 then ((polygon_on.f a2_0 a2_1 a3_0 a3_1 a1_0 a1_1).bind fun t199 => (some t199)) else (some false)) = some r := by rw [if_neg (show ¬ (false = true) by decide)] at H; exact H
         clear H
         have H := H1
         clear H1
         refine Or.elim (Classical.em (t188 = 0)) (fun c256 => ?p21_) (fun c256 => ?n21_)
         case' p21_ =>
          rw [if_pos c256] at H
          have c256b0 : (t188 == 0) = true := beq_iff_eq.mpr c256
          have c256b1 : (t188 != 0) = false := bne_eq_false_iff_eq.mpr c256
          clear c256
          replace H := Option.bind_eq_some_iff.mp H
          obtain ⟨t199, A2570, H⟩ := H
          replace H : (some t199) = some r := H
          have A257 := Aside0.mk A2570
          clear A2570
          have hm3_2 := Aside0.mk trivial
         case' n21_ =>
          rw [if_neg c256] at H
          have c256b0 : (t188 == 0) = false := beq_eq_false_iff_ne.mpr c256
          have c256b1 : (t188 != 0) = true := bne_iff_ne.mpr c256
          have hm3_2 := Aside0.mk trivial
       case' n19_ =>
        rw [if_neg c239] at H
        have c239b0 : (t187 == 0) = false := beq_eq_false_iff_ne.mpr c239
        have c239b1 : (t187 != 0) = true := bne_iff_ne.mpr c239
        refine Or.elim (Classical.em (t188 = 0)) (fun c290 => ?p22_) (fun c290 => ?n22_)
        case' p22_ =>
         rw [if_pos c290] at H
         have c290b0 : (t188 == 0) = true := beq_iff_eq.mpr c290
         have c290b1 : (t188 != 0) = false := bne_eq_false_iff_eq.mpr c290
         clear c290
         replace H := Option.bind_eq_some_iff.mp H
         obtain ⟨t200, A2910, H⟩ := H
         replace H : (some t200) = some r := H
         have A291 := Aside0.mk A2910
         clear A2910
         have hm3_2 := Aside0.mk trivial
        case' n22_ =>
         rw [if_neg c290] at H
         have c290b0 : (t188 == 0) = false := beq_eq_false_iff_ne.mpr c290
         have c290b1 : (t188 != 0) = true := bne_iff_ne.mpr c290
         have hm3_2 := Aside0.mk trivial
     case' n17_ =>
      rw [if_neg c226] at H
      have c226b0 : (t186 == 0) = false := beq_eq_false_iff_ne.mpr c226
      have c226b1 : (t186 != 0) = true := bne_iff_ne.mpr c226
      refine Or.elim (Classical.em (t187 = 0)) (fun c316 => ?p23_) (fun c316 => ?n23_)
      case' p23_ =>
       rw [if_pos c316] at H
       have c316b0 : (t187 == 0) = true := beq_iff_eq.mpr c316
       have c316b1 : (t187 != 0) = false := bne_eq_false_iff_eq.mpr c316
       clear c316
       replace H := Option.bind_eq_some_iff.mp H
       obtain ⟨t201, A3170, H⟩ := H
       replace H : (if t201 = true then (some true) else (if t188 = 0 then ((polygon_on.f a2_0 a2_1 a3_0 a3_1 a1_0 a1_1).bind fun t202 => (some t202)) else (some false))) = some r := H
       have A317 := Aside0.mk A3170
       clear A3170
       refine Or.elim (Classical.em (t201 = true)) (fun c318 => ?p24_) (fun c318 => ?n24_)
       case' p24_ =>
        subst c318
        have H1 : (some true) = some r := by rw [if_pos rfl] at H; exact H
        clear H
        have H := H1
        clear H1
        have hm3_3 := Aside0.mk trivial
       case' n24_ =>
        replace c318 := Bool.eq_false_iff.mpr c318
        subst c318
        have H1 : (if t188 = 0 then ((polygon_on.f a2_0 a2_1 a3_0 a3_1 a1_0 a1_1).bind fun t202 => (some t202)) else (some false)) = some r := by rw [if_neg (show ¬ (false = true) by decide)] at H; exact H
        clear H
        have H := H1
        clear H1
        refine Or.elim (Classical.em (t188 = 0)) (fun c329 => ?p25_) (fun c329 => ?n25_)
        case' p25_ =>
         rw [if_pos c329] at H
         have c329b0 : (t188 == 0) = true := beq_iff_eq.mpr c329
         have c329b1 : (t188 != 0) = false := bne_eq_false_iff_eq.mpr c329
         clear c329
         replace H := Option.bind_eq_some_iff.mp H
         obtain ⟨t202, A3300, H⟩ := H
         replace H : (some t202) = some r := H
         have A330 := Aside0.mk A3300
         clear A3300
         have hm3_3 := Aside0.mk trivial
        case' n25_ =>
         rw [if_neg c329] at H
         have c329b0 : (t188 == 0) = false := beq_eq_false_iff_ne.mpr c329
         have c329b1 : (t188 != 0) = true := bne_iff_ne.mpr c329
         have hm3_3 := Aside0.mk trivial
      case' n23_ =>
       rw [if_neg c316] at H
       have c316b0 : (t187 == 0) = false := beq_eq_false_iff_ne.mpr c316
       have c316b1 : (t187 != 0) = true := bne_iff_ne.mpr c316
       refine Or.elim (Classical.em (t188 = 0)) (fun c355 => ?p26_) (fun c355 => ?n26_)
       case' p26_ =>
        rw [if_pos c355] at H
        have c355b0 : (t188 == 0) = true := beq_iff_eq.mpr c355
        have c355b1 : (t188 != 0) = false := bne_eq_false_iff_eq.mpr c355
        clear c355
        replace H := Option.bind_eq_some_iff.mp H
        obtain ⟨t203, A3560, H⟩ := H
        replace H : (some t203) = some r := H
        have A356 := Aside0.mk A3560
        clear A3560
        have hm3_4 := Aside0.mk trivial
       case' n26_ =>
        rw [if_neg c355] at H
        have c355b0 : (t188 == 0) = false := beq_eq_false_iff_ne.mpr c355
        have c355b1 : (t188 != 0) = true := bne_iff_ne.mpr c355
        have hm3_0 := Aside0.mk trivial
   all_goals
    obtain rfl := Option.some.inj H
    first
     | clear hm3_0
       go_wp2
       go_ret
       exact ⟨by first | rfl | (simp [errW_none, errW_some] <;> rfl) | (simp [*, errW_none, errW_some] <;> rfl), by repeat (first | (with_reducible first | exact HB.out | apply below_alloc | apply pw_below_drewN | apply below_drew1 | refine below_set ?_ GE181.out | refine below_set ?_ GE182.out | refine below_set ?_ GE183.out | refine below_set ?_ GE184.out) | exact HB.out)⟩
     | (first | (have _hm := hm3_1) | (have _hm := hm3_2))
       have hnbzc1 := NB181_182.out
       have hnczc1 := NB182_181.out
       have hnbzc2 := NB181_183.out
       have hnczc2 := NB183_181.out
       have hnbzc3 := NB181_184.out
       have hnczc3 := NB184_181.out
       have hczzc1 : wc.cell? ⟨gb181, 0, none⟩ = some (.int .i64 a0_0) := (blk_cell BK181.out 0).trans rfl
       have hczzc2 : wc.cell? ⟨gb181, 1, none⟩ = some (.int .i64 a0_1) := (blk_cell BK181.out 1).trans rfl
       have hfzzc1 := blk_frozen BK181.out 0
       have hfzzc2 := blk_frozen BK181.out 1
       have hnbzc4 := NB182_183.out
       have hnczc4 := NB183_182.out
       have hnbzc5 := NB182_184.out
       have hnczc5 := NB184_182.out
       have hczzc3 : wc.cell? ⟨gb182, 0, none⟩ = some (.int .i64 a1_0) := (blk_cell BK182.out 0).trans rfl
       have hczzc4 : wc.cell? ⟨gb182, 1, none⟩ = some (.int .i64 a1_1) := (blk_cell BK182.out 1).trans rfl
       have hfzzc3 := blk_frozen BK182.out 0
       have hfzzc4 := blk_frozen BK182.out 1
       first
        | clear hm3_1
          have hnbzc6 := NB183_184.out
          have hnczc6 := NB184_183.out
          have hczzc5 : wc.cell? ⟨gb183, 0, none⟩ = some (.int .i64 a2_0) := (blk_cell BK183.out 0).trans rfl
          have hczzc6 : wc.cell? ⟨gb183, 1, none⟩ = some (.int .i64 a2_1) := (blk_cell BK183.out 1).trans rfl
          have hfzzc5 := blk_frozen BK183.out 0
          have hfzzc6 := blk_frozen BK183.out 1
          go_wp2_with (first | (go_at_call 108; (with_reducible refine (polygon_on.calls a2_0 a2_1 a3_0 a3_1 a1_0 a1_1 t196 _ A201.out).mono ?_); rintro e wxb2501 ⟨rfl, hb⟩; have n0_ := Aside0.mk (blk_below (g := gb181) (o := .cells #[.int .i64 a0_0, .int .i64 a0_1] 36 (0, 0)) (by (with_reducible repeat (first | refine blk_drewN ?_ _ | refine blk_drew ?_ | refine blk_alloc ?_ _)); exact BK181.out) hb); have n1_ := Aside0.mk (blk_below (g := gb182) (o := .cells #[.int .i64 a1_0, .int .i64 a1_1] 36 (0, 0)) (by (with_reducible repeat (first | refine blk_drewN ?_ _ | refine blk_drew ?_ | refine blk_alloc ?_ _)); exact BK182.out) hb); have n2_ := Aside0.mk (blk_below (g := gb183) (o := .cells #[.int .i64 a2_0, .int .i64 a2_1] 36 (0, 0)) (by (with_reducible repeat (first | refine blk_drewN ?_ _ | refine blk_drew ?_ | refine blk_alloc ?_ _)); exact BK183.out) hb); have n3_ := Aside0.mk (blk_below (g := gb184) (o := .cells #[.int .i64 a3_0, .int .i64 a3_1] 36 (0, 0)) (by (with_reducible repeat (first | refine blk_drewN ?_ _ | refine blk_drew ?_ | refine blk_alloc ?_ _)); exact BK184.out) hb); have n4_ := Aside0.mk (below_step (by repeat (first | (with_reducible first | exact HB.out | apply below_alloc | apply pw_below_drewN | apply below_drew1 | refine below_set ?_ GE181.out | refine below_set ?_ GE182.out | refine below_set ?_ GE183.out | refine below_set ?_ GE184.out) | exact HB.out)) hb); clear BK181; clear BK182; clear BK183; clear BK184; clear HB; have BK181 := n0_; have BK182 := n1_; have BK183 := n2_; have BK184 := n3_; have HB := n4_; clear n0_ n1_ n2_ n3_ n4_; (try clear hb); (try clear hb2); (try clear hk); (try clear hi)) | (go_at_call 108; (with_reducible refine (polygon_on.calls a2_0 a2_1 a3_0 a3_1 a1_0 a1_1 t195 _ A167.out).mono ?_); rintro e wx81ce1 ⟨rfl, hb⟩; have n0_ := Aside0.mk (blk_below (g := gb181) (o := .cells #[.int .i64 a0_0, .int .i64 a0_1] 36 (0, 0)) (by (with_reducible repeat (first | refine blk_drewN ?_ _ | refine blk_drew ?_ | refine blk_alloc ?_ _)); exact BK181.out) hb); have n1_ := Aside0.mk (blk_below (g := gb182) (o := .cells #[.int .i64 a1_0, .int .i64 a1_1] 36 (0, 0)) (by (with_reducible repeat (first | refine blk_drewN ?_ _ | refine blk_drew ?_ | refine blk_alloc ?_ _)); exact BK182.out) hb); have n2_ := Aside0.mk (blk_below (g := gb183) (o := .cells #[.int .i64 a2_0, .int .i64 a2_1] 36 (0, 0)) (by (with_reducible repeat (first | refine blk_drewN ?_ _ | refine blk_drew ?_ | refine blk_alloc ?_ _)); exact BK183.out) hb); have n3_ := Aside0.mk (blk_below (g := gb184) (o := .cells #[.int .i64 a3_0, .int .i64 a3_1] 36 (0, 0)) (by (with_reducible repeat (first | refine blk_drewN ?_ _ | refine blk_drew ?_ | refine blk_alloc ?_ _)); exact BK184.out) hb); have n4_ := Aside0.mk (below_step (by repeat (first | (with_reducible first | exact HB.out | apply below_alloc | apply pw_below_drewN | apply below_drew1 | refine below_set ?_ GE181.out | refine below_set ?_ GE182.out | refine below_set ?_ GE183.out | refine below_set ?_ GE184.out) | exact HB.out)) hb); clear BK181; clear BK182; clear BK183; clear BK184; clear HB; have BK181 := n0_; have BK182 := n1_; have BK183 := n2_; have BK184 := n3_; have HB := n4_; clear n0_ n1_ n2_ n3_ n4_; (try clear hb); (try clear hb2); (try clear hk); (try clear hi)) | (go_at_call 108; (with_reducible refine (polygon_on.calls a2_0 a2_1 a3_0 a3_1 a0_0 a0_1 false _ A150.out).mono ?_); rintro e wx55811 ⟨rfl, hb⟩; have n0_ := Aside0.mk (blk_below (g := gb181) (o := .cells #[.int .i64 a0_0, .int .i64 a0_1] 36 (0, 0)) (by (with_reducible repeat (first | refine blk_drewN ?_ _ | refine blk_drew ?_ | refine blk_alloc ?_ _)); exact BK181.out) hb); have n1_ := Aside0.mk (blk_below (g := gb182) (o := .cells #[.int .i64 a1_0, .int .i64 a1_1] 36 (0, 0)) (by (with_reducible repeat (first | refine blk_drewN ?_ _ | refine blk_drew ?_ | refine blk_alloc ?_ _)); exact BK182.out) hb); have n2_ := Aside0.mk (blk_below (g := gb183) (o := .cells #[.int .i64 a2_0, .int .i64 a2_1] 36 (0, 0)) (by (with_reducible repeat (first | refine blk_drewN ?_ _ | refine blk_drew ?_ | refine blk_alloc ?_ _)); exact BK183.out) hb); have n3_ := Aside0.mk (blk_below (g := gb184) (o := .cells #[.int .i64 a3_0, .int .i64 a3_1] 36 (0, 0)) (by (with_reducible repeat (first | refine blk_drewN ?_ _ | refine blk_drew ?_ | refine blk_alloc ?_ _)); exact BK184.out) hb); have n4_ := Aside0.mk (below_step (by repeat (first | (with_reducible first | exact HB.out | apply below_alloc | apply pw_below_drewN | apply below_drew1 | refine below_set ?_ GE181.out | refine below_set ?_ GE182.out | refine below_set ?_ GE183.out | refine below_set ?_ GE184.out) | exact HB.out)) hb); clear BK181; clear BK182; clear BK183; clear BK184; clear HB; have BK181 := n0_; have BK182 := n1_; have BK183 := n2_; have BK184 := n3_; have HB := n4_; clear n0_ n1_ n2_ n3_ n4_; (try clear hb); (try clear hb2); (try clear hk); (try clear hi); have hczy496020 : wx55811.cell? ⟨gb183, 0, none⟩ = some (.int .i64 a2_0) := (blk_cell BK183.out 0).trans rfl; have hczy496021 : wx55811.cell? ⟨gb183, 1, none⟩ = some (.int .i64 a2_1) := (blk_cell BK183.out 1).trans rfl; have hfzy496022 := blk_frozen BK183.out 0; have hfzy496023 := blk_frozen BK183.out 1; have hczy496024 : wx55811.cell? ⟨gb184, 0, none⟩ = some (.int .i64 a3_0) := (blk_cell BK184.out 0).trans rfl; have hczy496025 : wx55811.cell? ⟨gb184, 1, none⟩ = some (.int .i64 a3_1) := (blk_cell BK184.out 1).trans rfl; have hfzy496026 := blk_frozen BK184.out 0; have hfzy496027 := blk_frozen BK184.out 1; have hczy496028 : wx55811.cell? ⟨gb182, 0, none⟩ = some (.int .i64 a1_0) := (blk_cell BK182.out 0).trans rfl; have hczy496029 : wx55811.cell? ⟨gb182, 1, none⟩ = some (.int .i64 a1_1) := (blk_cell BK182.out 1).trans rfl; have hfzy4960210 := blk_frozen BK182.out 0; have hfzy4960211 := blk_frozen BK182.out 1) | (go_at_call 108; (with_reducible refine (polygon_on.calls a2_0 a2_1 a3_0 a3_1 a0_0 a0_1 true _ A150.out).mono ?_); rintro e wx1fb61 ⟨rfl, hb⟩; have n0_ := Aside0.mk (blk_below (g := gb181) (o := .cells #[.int .i64 a0_0, .int .i64 a0_1] 36 (0, 0)) (by (with_reducible repeat (first | refine blk_drewN ?_ _ | refine blk_drew ?_ | refine blk_alloc ?_ _)); exact BK181.out) hb); have n1_ := Aside0.mk (blk_below (g := gb182) (o := .cells #[.int .i64 a1_0, .int .i64 a1_1] 36 (0, 0)) (by (with_reducible repeat (first | refine blk_drewN ?_ _ | refine blk_drew ?_ | refine blk_alloc ?_ _)); exact BK182.out) hb); have n2_ := Aside0.mk (blk_below (g := gb183) (o := .cells #[.int .i64 a2_0, .int .i64 a2_1] 36 (0, 0)) (by (with_reducible repeat (first | refine blk_drewN ?_ _ | refine blk_drew ?_ | refine blk_alloc ?_ _)); exact BK183.out) hb); have n3_ := Aside0.mk (blk_below (g := gb184) (o := .cells #[.int .i64 a3_0, .int .i64 a3_1] 36 (0, 0)) (by (with_reducible repeat (first | refine blk_drewN ?_ _ | refine blk_drew ?_ | refine blk_alloc ?_ _)); exact BK184.out) hb); have n4_ := Aside0.mk (below_step (by repeat (first | (with_reducible first | exact HB.out | apply below_alloc | apply pw_below_drewN | apply below_drew1 | refine below_set ?_ GE181.out | refine below_set ?_ GE182.out | refine below_set ?_ GE183.out | refine below_set ?_ GE184.out) | exact HB.out)) hb); clear BK181; clear BK182; clear BK183; clear BK184; clear HB; have BK181 := n0_; have BK182 := n1_; have BK183 := n2_; have BK184 := n3_; have HB := n4_; clear n0_ n1_ n2_ n3_ n4_; (try clear hb); (try clear hb2); (try clear hk); (try clear hi)) | (go_at_call 108; (with_reducible refine (polygon_on.calls a2_0 a2_1 a3_0 a3_1 a1_0 a1_1 t193 _ A116.out).mono ?_); rintro e wxc9e91 ⟨rfl, hb⟩; have n0_ := Aside0.mk (blk_below (g := gb181) (o := .cells #[.int .i64 a0_0, .int .i64 a0_1] 36 (0, 0)) (by (with_reducible repeat (first | refine blk_drewN ?_ _ | refine blk_drew ?_ | refine blk_alloc ?_ _)); exact BK181.out) hb); have n1_ := Aside0.mk (blk_below (g := gb182) (o := .cells #[.int .i64 a1_0, .int .i64 a1_1] 36 (0, 0)) (by (with_reducible repeat (first | refine blk_drewN ?_ _ | refine blk_drew ?_ | refine blk_alloc ?_ _)); exact BK182.out) hb); have n2_ := Aside0.mk (blk_below (g := gb183) (o := .cells #[.int .i64 a2_0, .int .i64 a2_1] 36 (0, 0)) (by (with_reducible repeat (first | refine blk_drewN ?_ _ | refine blk_drew ?_ | refine blk_alloc ?_ _)); exact BK183.out) hb); have n3_ := Aside0.mk (blk_below (g := gb184) (o := .cells #[.int .i64 a3_0, .int .i64 a3_1] 36 (0, 0)) (by (with_reducible repeat (first | refine blk_drewN ?_ _ | refine blk_drew ?_ | refine blk_alloc ?_ _)); exact BK184.out) hb); have n4_ := Aside0.mk (below_step (by repeat (first | (with_reducible first | exact HB.out | apply below_alloc | apply pw_below_drewN | apply below_drew1 | refine below_set ?_ GE181.out | refine below_set ?_ GE182.out | refine below_set ?_ GE183.out | refine below_set ?_ GE184.out) | exact HB.out)) hb); clear BK181; clear BK182; clear BK183; clear BK184; clear HB; have BK181 := n0_; have BK182 := n1_; have BK183 := n2_; have BK184 := n3_; have HB := n4_; clear n0_ n1_ n2_ n3_ n4_; (try clear hb); (try clear hb2); (try clear hk); (try clear hi)) | (go_at_call 108; (with_reducible refine (polygon_on.calls a2_0 a2_1 a3_0 a3_1 a1_0 a1_1 t192 _ A74.out).mono ?_); rintro e wx80e41 ⟨rfl, hb⟩; have n0_ := Aside0.mk (blk_below (g := gb181) (o := .cells #[.int .i64 a0_0, .int .i64 a0_1] 36 (0, 0)) (by (with_reducible repeat (first | refine blk_drewN ?_ _ | refine blk_drew ?_ | refine blk_alloc ?_ _)); exact BK181.out) hb); have n1_ := Aside0.mk (blk_below (g := gb182) (o := .cells #[.int .i64 a1_0, .int .i64 a1_1] 36 (0, 0)) (by (with_reducible repeat (first | refine blk_drewN ?_ _ | refine blk_drew ?_ | refine blk_alloc ?_ _)); exact BK182.out) hb); have n2_ := Aside0.mk (blk_below (g := gb183) (o := .cells #[.int .i64 a2_0, .int .i64 a2_1] 36 (0, 0)) (by (with_reducible repeat (first | refine blk_drewN ?_ _ | refine blk_drew ?_ | refine blk_alloc ?_ _)); exact BK183.out) hb); have n3_ := Aside0.mk (blk_below (g := gb184) (o := .cells #[.int .i64 a3_0, .int .i64 a3_1] 36 (0, 0)) (by (with_reducible repeat (first | refine blk_drewN ?_ _ | refine blk_drew ?_ | refine blk_alloc ?_ _)); exact BK184.out) hb); have n4_ := Aside0.mk (below_step (by repeat (first | (with_reducible first | exact HB.out | apply below_alloc | apply pw_below_drewN | apply below_drew1 | refine below_set ?_ GE181.out | refine below_set ?_ GE182.out | refine below_set ?_ GE183.out | refine below_set ?_ GE184.out) | exact HB.out)) hb); clear BK181; clear BK182; clear BK183; clear BK184; clear HB; have BK181 := n0_; have BK182 := n1_; have BK183 := n2_; have BK184 := n3_; have HB := n4_; clear n0_ n1_ n2_ n3_ n4_; (try clear hb); (try clear hb2); (try clear hk); (try clear hi)) | (go_at_call 108; (with_reducible refine (polygon_on.calls a2_0 a2_1 a3_0 a3_1 a0_0 a0_1 false _ A53.out).mono ?_); rintro e wx99f21 ⟨rfl, hb⟩; have n0_ := Aside0.mk (blk_below (g := gb181) (o := .cells #[.int .i64 a0_0, .int .i64 a0_1] 36 (0, 0)) (by (with_reducible repeat (first | refine blk_drewN ?_ _ | refine blk_drew ?_ | refine blk_alloc ?_ _)); exact BK181.out) hb); have n1_ := Aside0.mk (blk_below (g := gb182) (o := .cells #[.int .i64 a1_0, .int .i64 a1_1] 36 (0, 0)) (by (with_reducible repeat (first | refine blk_drewN ?_ _ | refine blk_drew ?_ | refine blk_alloc ?_ _)); exact BK182.out) hb); have n2_ := Aside0.mk (blk_below (g := gb183) (o := .cells #[.int .i64 a2_0, .int .i64 a2_1] 36 (0, 0)) (by (with_reducible repeat (first | refine blk_drewN ?_ _ | refine blk_drew ?_ | refine blk_alloc ?_ _)); exact BK183.out) hb); have n3_ := Aside0.mk (blk_below (g := gb184) (o := .cells #[.int .i64 a3_0, .int .i64 a3_1] 36 (0, 0)) (by (with_reducible repeat (first | refine blk_drewN ?_ _ | refine blk_drew ?_ | refine blk_alloc ?_ _)); exact BK184.out) hb); have n4_ := Aside0.mk (below_step (by repeat (first | (with_reducible first | exact HB.out | apply below_alloc | apply pw_below_drewN | apply below_drew1 | refine below_set ?_ GE181.out | refine below_set ?_ GE182.out | refine below_set ?_ GE183.out | refine below_set ?_ GE184.out) | exact HB.out)) hb); clear BK181; clear BK182; clear BK183; clear BK184; clear HB; have BK181 := n0_; have BK182 := n1_; have BK183 := n2_; have BK184 := n3_; have HB := n4_; clear n0_ n1_ n2_ n3_ n4_; (try clear hb); (try clear hb2); (try clear hk); (try clear hi); have hczy0732c0 : wx99f21.cell? ⟨gb183, 0, none⟩ = some (.int .i64 a2_0) := (blk_cell BK183.out 0).trans rfl; have hczy0732c1 : wx99f21.cell? ⟨gb183, 1, none⟩ = some (.int .i64 a2_1) := (blk_cell BK183.out 1).trans rfl; have hfzy0732c2 := blk_frozen BK183.out 0; have hfzy0732c3 := blk_frozen BK183.out 1; have hczy0732c4 : wx99f21.cell? ⟨gb184, 0, none⟩ = some (.int .i64 a3_0) := (blk_cell BK184.out 0).trans rfl; have hczy0732c5 : wx99f21.cell? ⟨gb184, 1, none⟩ = some (.int .i64 a3_1) := (blk_cell BK184.out 1).trans rfl; have hfzy0732c6 := blk_frozen BK184.out 0; have hfzy0732c7 := blk_frozen BK184.out 1; have hczy0732c8 : wx99f21.cell? ⟨gb182, 0, none⟩ = some (.int .i64 a1_0) := (blk_cell BK182.out 0).trans rfl; have hczy0732c9 : wx99f21.cell? ⟨gb182, 1, none⟩ = some (.int .i64 a1_1) := (blk_cell BK182.out 1).trans rfl; have hfzy0732c10 := blk_frozen BK182.out 0; have hfzy0732c11 := blk_frozen BK182.out 1) | (go_at_call 108; (with_reducible refine (polygon_on.calls a2_0 a2_1 a3_0 a3_1 a0_0 a0_1 true _ A53.out).mono ?_); rintro e wxb2ea1 ⟨rfl, hb⟩; have n0_ := Aside0.mk (blk_below (g := gb181) (o := .cells #[.int .i64 a0_0, .int .i64 a0_1] 36 (0, 0)) (by (with_reducible repeat (first | refine blk_drewN ?_ _ | refine blk_drew ?_ | refine blk_alloc ?_ _)); exact BK181.out) hb); have n1_ := Aside0.mk (blk_below (g := gb182) (o := .cells #[.int .i64 a1_0, .int .i64 a1_1] 36 (0, 0)) (by (with_reducible repeat (first | refine blk_drewN ?_ _ | refine blk_drew ?_ | refine blk_alloc ?_ _)); exact BK182.out) hb); have n2_ := Aside0.mk (blk_below (g := gb183) (o := .cells #[.int .i64 a2_0, .int .i64 a2_1] 36 (0, 0)) (by (with_reducible repeat (first | refine blk_drewN ?_ _ | refine blk_drew ?_ | refine blk_alloc ?_ _)); exact BK183.out) hb); have n3_ := Aside0.mk (blk_below (g := gb184) (o := .cells #[.int .i64 a3_0, .int .i64 a3_1] 36 (0, 0)) (by (with_reducible repeat (first | refine blk_drewN ?_ _ | refine blk_drew ?_ | refine blk_alloc ?_ _)); exact BK184.out) hb); have n4_ := Aside0.mk (below_step (by repeat (first | (with_reducible first | exact HB.out | apply below_alloc | apply pw_below_drewN | apply below_drew1 | refine below_set ?_ GE181.out | refine below_set ?_ GE182.out | refine below_set ?_ GE183.out | refine below_set ?_ GE184.out) | exact HB.out)) hb); clear BK181; clear BK182; clear BK183; clear BK184; clear HB; have BK181 := n0_; have BK182 := n1_; have BK183 := n2_; have BK184 := n3_; have HB := n4_; clear n0_ n1_ n2_ n3_ n4_; (try clear hb); (try clear hb2); (try clear hk); (try clear hi)) | (go_at_call 108; (with_reducible refine (polygon_on.calls a0_0 a0_1 a1_0 a1_1 a3_0 a3_1 false _ A36.out).mono ?_); rintro e wx2fd91 ⟨rfl, hb⟩; have n0_ := Aside0.mk (blk_below (g := gb181) (o := .cells #[.int .i64 a0_0, .int .i64 a0_1] 36 (0, 0)) (by (with_reducible repeat (first | refine blk_drewN ?_ _ | refine blk_drew ?_ | refine blk_alloc ?_ _)); exact BK181.out) hb); have n1_ := Aside0.mk (blk_below (g := gb182) (o := .cells #[.int .i64 a1_0, .int .i64 a1_1] 36 (0, 0)) (by (with_reducible repeat (first | refine blk_drewN ?_ _ | refine blk_drew ?_ | refine blk_alloc ?_ _)); exact BK182.out) hb); have n2_ := Aside0.mk (blk_below (g := gb183) (o := .cells #[.int .i64 a2_0, .int .i64 a2_1] 36 (0, 0)) (by (with_reducible repeat (first | refine blk_drewN ?_ _ | refine blk_drew ?_ | refine blk_alloc ?_ _)); exact BK183.out) hb); have n3_ := Aside0.mk (blk_below (g := gb184) (o := .cells #[.int .i64 a3_0, .int .i64 a3_1] 36 (0, 0)) (by (with_reducible repeat (first | refine blk_drewN ?_ _ | refine blk_drew ?_ | refine blk_alloc ?_ _)); exact BK184.out) hb); have n4_ := Aside0.mk (below_step (by repeat (first | (with_reducible first | exact HB.out | apply below_alloc | apply pw_below_drewN | apply below_drew1 | refine below_set ?_ GE181.out | refine below_set ?_ GE182.out | refine below_set ?_ GE183.out | refine below_set ?_ GE184.out) | exact HB.out)) hb); clear BK181; clear BK182; clear BK183; clear BK184; clear HB; have BK181 := n0_; have BK182 := n1_; have BK183 := n2_; have BK184 := n3_; have HB := n4_; clear n0_ n1_ n2_ n3_ n4_; (try clear hb); (try clear hb2); (try clear hk); (try clear hi); have hczydffb70 : wx2fd91.cell? ⟨gb183, 0, none⟩ = some (.int .i64 a2_0) := (blk_cell BK183.out 0).trans rfl; have hczydffb71 : wx2fd91.cell? ⟨gb183, 1, none⟩ = some (.int .i64 a2_1) := (blk_cell BK183.out 1).trans rfl; have hfzydffb72 := blk_frozen BK183.out 0; have hfzydffb73 := blk_frozen BK183.out 1; have hczydffb74 : wx2fd91.cell? ⟨gb184, 0, none⟩ = some (.int .i64 a3_0) := (blk_cell BK184.out 0).trans rfl; have hczydffb75 : wx2fd91.cell? ⟨gb184, 1, none⟩ = some (.int .i64 a3_1) := (blk_cell BK184.out 1).trans rfl; have hfzydffb76 := blk_frozen BK184.out 0; have hfzydffb77 := blk_frozen BK184.out 1; have hczydffb78 : wx2fd91.cell? ⟨gb181, 0, none⟩ = some (.int .i64 a0_0) := (blk_cell BK181.out 0).trans rfl; have hczydffb79 : wx2fd91.cell? ⟨gb181, 1, none⟩ = some (.int .i64 a0_1) := (blk_cell BK181.out 1).trans rfl; have hfzydffb710 := blk_frozen BK181.out 0; have hfzydffb711 := blk_frozen BK181.out 1; have hczydffb712 : wx2fd91.cell? ⟨gb182, 0, none⟩ = some (.int .i64 a1_0) := (blk_cell BK182.out 0).trans rfl; have hczydffb713 : wx2fd91.cell? ⟨gb182, 1, none⟩ = some (.int .i64 a1_1) := (blk_cell BK182.out 1).trans rfl; have hfzydffb714 := blk_frozen BK182.out 0; have hfzydffb715 := blk_frozen BK182.out 1) | (go_at_call 108; (with_reducible refine (polygon_on.calls a0_0 a0_1 a1_0 a1_1 a3_0 a3_1 true _ A36.out).mono ?_); rintro e wx26901 ⟨rfl, hb⟩; have n0_ := Aside0.mk (blk_below (g := gb181) (o := .cells #[.int .i64 a0_0, .int .i64 a0_1] 36 (0, 0)) (by (with_reducible repeat (first | refine blk_drewN ?_ _ | refine blk_drew ?_ | refine blk_alloc ?_ _)); exact BK181.out) hb); have n1_ := Aside0.mk (blk_below (g := gb182) (o := .cells #[.int .i64 a1_0, .int .i64 a1_1] 36 (0, 0)) (by (with_reducible repeat (first | refine blk_drewN ?_ _ | refine blk_drew ?_ | refine blk_alloc ?_ _)); exact BK182.out) hb); have n2_ := Aside0.mk (blk_below (g := gb183) (o := .cells #[.int .i64 a2_0, .int .i64 a2_1] 36 (0, 0)) (by (with_reducible repeat (first | refine blk_drewN ?_ _ | refine blk_drew ?_ | refine blk_alloc ?_ _)); exact BK183.out) hb); have n3_ := Aside0.mk (blk_below (g := gb184) (o := .cells #[.int .i64 a3_0, .int .i64 a3_1] 36 (0, 0)) (by (with_reducible repeat (first | refine blk_drewN ?_ _ | refine blk_drew ?_ | refine blk_alloc ?_ _)); exact BK184.out) hb); have n4_ := Aside0.mk (below_step (by repeat (first | (with_reducible first | exact HB.out | apply below_alloc | apply pw_below_drewN | apply below_drew1 | refine below_set ?_ GE181.out | refine below_set ?_ GE182.out | refine below_set ?_ GE183.out | refine below_set ?_ GE184.out) | exact HB.out)) hb); clear BK181; clear BK182; clear BK183; clear BK184; clear HB; have BK181 := n0_; have BK182 := n1_; have BK183 := n2_; have BK184 := n3_; have HB := n4_; clear n0_ n1_ n2_ n3_ n4_; (try clear hb); (try clear hb2); (try clear hk); (try clear hi)) | (go_at_call 108; (with_reducible refine (polygon_on.calls a0_0 a0_1 a1_0 a1_1 a2_0 a2_1 false _ A23.out).mono ?_); rintro e wxf4111 ⟨rfl, hb⟩; have n0_ := Aside0.mk (blk_below (g := gb181) (o := .cells #[.int .i64 a0_0, .int .i64 a0_1] 36 (0, 0)) (by (with_reducible repeat (first | refine blk_drewN ?_ _ | refine blk_drew ?_ | refine blk_alloc ?_ _)); exact BK181.out) hb); have n1_ := Aside0.mk (blk_below (g := gb182) (o := .cells #[.int .i64 a1_0, .int .i64 a1_1] 36 (0, 0)) (by (with_reducible repeat (first | refine blk_drewN ?_ _ | refine blk_drew ?_ | refine blk_alloc ?_ _)); exact BK182.out) hb); have n2_ := Aside0.mk (blk_below (g := gb183) (o := .cells #[.int .i64 a2_0, .int .i64 a2_1] 36 (0, 0)) (by (with_reducible repeat (first | refine blk_drewN ?_ _ | refine blk_drew ?_ | refine blk_alloc ?_ _)); exact BK183.out) hb); have n3_ := Aside0.mk (blk_below (g := gb184) (o := .cells #[.int .i64 a3_0, .int .i64 a3_1] 36 (0, 0)) (by (with_reducible repeat (first | refine blk_drewN ?_ _ | refine blk_drew ?_ | refine blk_alloc ?_ _)); exact BK184.out) hb); have n4_ := Aside0.mk (below_step (by repeat (first | (with_reducible first | exact HB.out | apply below_alloc | apply pw_below_drewN | apply below_drew1 | refine below_set ?_ GE181.out | refine below_set ?_ GE182.out | refine below_set ?_ GE183.out | refine below_set ?_ GE184.out) | exact HB.out)) hb); clear BK181; clear BK182; clear BK183; clear BK184; clear HB; have BK181 := n0_; have BK182 := n1_; have BK183 := n2_; have BK184 := n3_; have HB := n4_; clear n0_ n1_ n2_ n3_ n4_; (try clear hb); (try clear hb2); (try clear hk); (try clear hi); have hczyb977f0 : wxf4111.cell? ⟨gb181, 0, none⟩ = some (.int .i64 a0_0) := (blk_cell BK181.out 0).trans rfl; have hczyb977f1 : wxf4111.cell? ⟨gb181, 1, none⟩ = some (.int .i64 a0_1) := (blk_cell BK181.out 1).trans rfl; have hfzyb977f2 := blk_frozen BK181.out 0; have hfzyb977f3 := blk_frozen BK181.out 1; have hczyb977f4 : wxf4111.cell? ⟨gb182, 0, none⟩ = some (.int .i64 a1_0) := (blk_cell BK182.out 0).trans rfl; have hczyb977f5 : wxf4111.cell? ⟨gb182, 1, none⟩ = some (.int .i64 a1_1) := (blk_cell BK182.out 1).trans rfl; have hfzyb977f6 := blk_frozen BK182.out 0; have hfzyb977f7 := blk_frozen BK182.out 1; have hczyb977f8 : wxf4111.cell? ⟨gb184, 0, none⟩ = some (.int .i64 a3_0) := (blk_cell BK184.out 0).trans rfl; have hczyb977f9 : wxf4111.cell? ⟨gb184, 1, none⟩ = some (.int .i64 a3_1) := (blk_cell BK184.out 1).trans rfl; have hfzyb977f10 := blk_frozen BK184.out 0; have hfzyb977f11 := blk_frozen BK184.out 1; have hczyb977f12 : wxf4111.cell? ⟨gb183, 0, none⟩ = some (.int .i64 a2_0) := (blk_cell BK183.out 0).trans rfl; have hczyb977f13 : wxf4111.cell? ⟨gb183, 1, none⟩ = some (.int .i64 a2_1) := (blk_cell BK183.out 1).trans rfl; have hfzyb977f14 := blk_frozen BK183.out 0; have hfzyb977f15 := blk_frozen BK183.out 1) | (go_at_call 108; (with_reducible refine (polygon_on.calls a0_0 a0_1 a1_0 a1_1 a2_0 a2_1 true _ A23.out).mono ?_); rintro e wx324b1 ⟨rfl, hb⟩; have n0_ := Aside0.mk (blk_below (g := gb181) (o := .cells #[.int .i64 a0_0, .int .i64 a0_1] 36 (0, 0)) (by (with_reducible repeat (first | refine blk_drewN ?_ _ | refine blk_drew ?_ | refine blk_alloc ?_ _)); exact BK181.out) hb); have n1_ := Aside0.mk (blk_below (g := gb182) (o := .cells #[.int .i64 a1_0, .int .i64 a1_1] 36 (0, 0)) (by (with_reducible repeat (first | refine blk_drewN ?_ _ | refine blk_drew ?_ | refine blk_alloc ?_ _)); exact BK182.out) hb); have n2_ := Aside0.mk (blk_below (g := gb183) (o := .cells #[.int .i64 a2_0, .int .i64 a2_1] 36 (0, 0)) (by (with_reducible repeat (first | refine blk_drewN ?_ _ | refine blk_drew ?_ | refine blk_alloc ?_ _)); exact BK183.out) hb); have n3_ := Aside0.mk (blk_below (g := gb184) (o := .cells #[.int .i64 a3_0, .int .i64 a3_1] 36 (0, 0)) (by (with_reducible repeat (first | refine blk_drewN ?_ _ | refine blk_drew ?_ | refine blk_alloc ?_ _)); exact BK184.out) hb); have n4_ := Aside0.mk (below_step (by repeat (first | (with_reducible first | exact HB.out | apply below_alloc | apply pw_below_drewN | apply below_drew1 | refine below_set ?_ GE181.out | refine below_set ?_ GE182.out | refine below_set ?_ GE183.out | refine below_set ?_ GE184.out) | exact HB.out)) hb); clear BK181; clear BK182; clear BK183; clear BK184; clear HB; have BK181 := n0_; have BK182 := n1_; have BK183 := n2_; have BK184 := n3_; have HB := n4_; clear n0_ n1_ n2_ n3_ n4_; (try clear hb); (try clear hb2); (try clear hk); (try clear hi)))
          go_ret
          exact ⟨by first | rfl | (simp [errW_none, errW_some] <;> rfl) | (simp [*, errW_none, errW_some] <;> rfl), by repeat (first | (with_reducible first | exact HB.out | apply below_alloc | apply pw_below_drewN | apply below_drew1 | refine below_set ?_ GE181.out | refine below_set ?_ GE182.out | refine below_set ?_ GE183.out | refine below_set ?_ GE184.out) | exact HB.out)⟩
        | clear hm3_2
          have hnbzc6 := NB184_183.out
          have hnczc6 := NB183_184.out
          have hczzc5 : wc.cell? ⟨gb184, 0, none⟩ = some (.int .i64 a3_0) := (blk_cell BK184.out 0).trans rfl
          have hczzc6 : wc.cell? ⟨gb184, 1, none⟩ = some (.int .i64 a3_1) := (blk_cell BK184.out 1).trans rfl
          have hfzzc5 := blk_frozen BK184.out 0
          have hfzzc6 := blk_frozen BK184.out 1
          go_wp2_with (first | (go_at_call 108; (with_reducible refine (polygon_on.calls a2_0 a2_1 a3_0 a3_1 a1_0 a1_1 t200 _ A291.out).mono ?_); rintro e wxc72d1 ⟨rfl, hb⟩; have n0_ := Aside0.mk (blk_below (g := gb181) (o := .cells #[.int .i64 a0_0, .int .i64 a0_1] 36 (0, 0)) (by (with_reducible repeat (first | refine blk_drewN ?_ _ | refine blk_drew ?_ | refine blk_alloc ?_ _)); exact BK181.out) hb); have n1_ := Aside0.mk (blk_below (g := gb182) (o := .cells #[.int .i64 a1_0, .int .i64 a1_1] 36 (0, 0)) (by (with_reducible repeat (first | refine blk_drewN ?_ _ | refine blk_drew ?_ | refine blk_alloc ?_ _)); exact BK182.out) hb); have n2_ := Aside0.mk (blk_below (g := gb183) (o := .cells #[.int .i64 a2_0, .int .i64 a2_1] 36 (0, 0)) (by (with_reducible repeat (first | refine blk_drewN ?_ _ | refine blk_drew ?_ | refine blk_alloc ?_ _)); exact BK183.out) hb); have n3_ := Aside0.mk (blk_below (g := gb184) (o := .cells #[.int .i64 a3_0, .int .i64 a3_1] 36 (0, 0)) (by (with_reducible repeat (first | refine blk_drewN ?_ _ | refine blk_drew ?_ | refine blk_alloc ?_ _)); exact BK184.out) hb); have n4_ := Aside0.mk (below_step (by repeat (first | (with_reducible first | exact HB.out | apply below_alloc | apply pw_below_drewN | apply below_drew1 | refine below_set ?_ GE181.out | refine below_set ?_ GE182.out | refine below_set ?_ GE183.out | refine below_set ?_ GE184.out) | exact HB.out)) hb); clear BK181; clear BK182; clear BK183; clear BK184; clear HB; have BK181 := n0_; have BK182 := n1_; have BK183 := n2_; have BK184 := n3_; have HB := n4_; clear n0_ n1_ n2_ n3_ n4_; (try clear hb); (try clear hb2); (try clear hk); (try clear hi)) | (go_at_call 108; (with_reducible refine (polygon_on.calls a2_0 a2_1 a3_0 a3_1 a1_0 a1_1 t199 _ A257.out).mono ?_); rintro e wx891e1 ⟨rfl, hb⟩; have n0_ := Aside0.mk (blk_below (g := gb181) (o := .cells #[.int .i64 a0_0, .int .i64 a0_1] 36 (0, 0)) (by (with_reducible repeat (first | refine blk_drewN ?_ _ | refine blk_drew ?_ | refine blk_alloc ?_ _)); exact BK181.out) hb); have n1_ := Aside0.mk (blk_below (g := gb182) (o := .cells #[.int .i64 a1_0, .int .i64 a1_1] 36 (0, 0)) (by (with_reducible repeat (first | refine blk_drewN ?_ _ | refine blk_drew ?_ | refine blk_alloc ?_ _)); exact BK182.out) hb); have n2_ := Aside0.mk (blk_below (g := gb183) (o := .cells #[.int .i64 a2_0, .int .i64 a2_1] 36 (0, 0)) (by (with_reducible repeat (first | refine blk_drewN ?_ _ | refine blk_drew ?_ | refine blk_alloc ?_ _)); exact BK183.out) hb); have n3_ := Aside0.mk (blk_below (g := gb184) (o := .cells #[.int .i64 a3_0, .int .i64 a3_1] 36 (0, 0)) (by (with_reducible repeat (first | refine blk_drewN ?_ _ | refine blk_drew ?_ | refine blk_alloc ?_ _)); exact BK184.out) hb); have n4_ := Aside0.mk (below_step (by repeat (first | (with_reducible first | exact HB.out | apply below_alloc | apply pw_below_drewN | apply below_drew1 | refine below_set ?_ GE181.out | refine below_set ?_ GE182.out | refine below_set ?_ GE183.out | refine below_set ?_ GE184.out) | exact HB.out)) hb); clear BK181; clear BK182; clear BK183; clear BK184; clear HB; have BK181 := n0_; have BK182 := n1_; have BK183 := n2_; have BK184 := n3_; have HB := n4_; clear n0_ n1_ n2_ n3_ n4_; (try clear hb); (try clear hb2); (try clear hk); (try clear hi)) | (go_at_call 108; (with_reducible refine (polygon_on.calls a2_0 a2_1 a3_0 a3_1 a0_0 a0_1 false _ A240.out).mono ?_); rintro e wx7d631 ⟨rfl, hb⟩; have n0_ := Aside0.mk (blk_below (g := gb181) (o := .cells #[.int .i64 a0_0, .int .i64 a0_1] 36 (0, 0)) (by (with_reducible repeat (first | refine blk_drewN ?_ _ | refine blk_drew ?_ | refine blk_alloc ?_ _)); exact BK181.out) hb); have n1_ := Aside0.mk (blk_below (g := gb182) (o := .cells #[.int .i64 a1_0, .int .i64 a1_1] 36 (0, 0)) (by (with_reducible repeat (first | refine blk_drewN ?_ _ | refine blk_drew ?_ | refine blk_alloc ?_ _)); exact BK182.out) hb); have n2_ := Aside0.mk (blk_below (g := gb183) (o := .cells #[.int .i64 a2_0, .int .i64 a2_1] 36 (0, 0)) (by (with_reducible repeat (first | refine blk_drewN ?_ _ | refine blk_drew ?_ | refine blk_alloc ?_ _)); exact BK183.out) hb); have n3_ := Aside0.mk (blk_below (g := gb184) (o := .cells #[.int .i64 a3_0, .int .i64 a3_1] 36 (0, 0)) (by (with_reducible repeat (first | refine blk_drewN ?_ _ | refine blk_drew ?_ | refine blk_alloc ?_ _)); exact BK184.out) hb); have n4_ := Aside0.mk (below_step (by repeat (first | (with_reducible first | exact HB.out | apply below_alloc | apply pw_below_drewN | apply below_drew1 | refine below_set ?_ GE181.out | refine below_set ?_ GE182.out | refine below_set ?_ GE183.out | refine below_set ?_ GE184.out) | exact HB.out)) hb); clear BK181; clear BK182; clear BK183; clear BK184; clear HB; have BK181 := n0_; have BK182 := n1_; have BK183 := n2_; have BK184 := n3_; have HB := n4_; clear n0_ n1_ n2_ n3_ n4_; (try clear hb); (try clear hb2); (try clear hk); (try clear hi); have hczy793600 : wx7d631.cell? ⟨gb183, 0, none⟩ = some (.int .i64 a2_0) := (blk_cell BK183.out 0).trans rfl; have hczy793601 : wx7d631.cell? ⟨gb183, 1, none⟩ = some (.int .i64 a2_1) := (blk_cell BK183.out 1).trans rfl; have hfzy793602 := blk_frozen BK183.out 0; have hfzy793603 := blk_frozen BK183.out 1; have hczy793604 : wx7d631.cell? ⟨gb184, 0, none⟩ = some (.int .i64 a3_0) := (blk_cell BK184.out 0).trans rfl; have hczy793605 : wx7d631.cell? ⟨gb184, 1, none⟩ = some (.int .i64 a3_1) := (blk_cell BK184.out 1).trans rfl; have hfzy793606 := blk_frozen BK184.out 0; have hfzy793607 := blk_frozen BK184.out 1; have hczy793608 : wx7d631.cell? ⟨gb182, 0, none⟩ = some (.int .i64 a1_0) := (blk_cell BK182.out 0).trans rfl; have hczy793609 : wx7d631.cell? ⟨gb182, 1, none⟩ = some (.int .i64 a1_1) := (blk_cell BK182.out 1).trans rfl; have hfzy7936010 := blk_frozen BK182.out 0; have hfzy7936011 := blk_frozen BK182.out 1) | (go_at_call 108; (with_reducible refine (polygon_on.calls a2_0 a2_1 a3_0 a3_1 a0_0 a0_1 true _ A240.out).mono ?_); rintro e wx9cf31 ⟨rfl, hb⟩; have n0_ := Aside0.mk (blk_below (g := gb181) (o := .cells #[.int .i64 a0_0, .int .i64 a0_1] 36 (0, 0)) (by (with_reducible repeat (first | refine blk_drewN ?_ _ | refine blk_drew ?_ | refine blk_alloc ?_ _)); exact BK181.out) hb); have n1_ := Aside0.mk (blk_below (g := gb182) (o := .cells #[.int .i64 a1_0, .int .i64 a1_1] 36 (0, 0)) (by (with_reducible repeat (first | refine blk_drewN ?_ _ | refine blk_drew ?_ | refine blk_alloc ?_ _)); exact BK182.out) hb); have n2_ := Aside0.mk (blk_below (g := gb183) (o := .cells #[.int .i64 a2_0, .int .i64 a2_1] 36 (0, 0)) (by (with_reducible repeat (first | refine blk_drewN ?_ _ | refine blk_drew ?_ | refine blk_alloc ?_ _)); exact BK183.out) hb); have n3_ := Aside0.mk (blk_below (g := gb184) (o := .cells #[.int .i64 a3_0, .int .i64 a3_1] 36 (0, 0)) (by (with_reducible repeat (first | refine blk_drewN ?_ _ | refine blk_drew ?_ | refine blk_alloc ?_ _)); exact BK184.out) hb); have n4_ := Aside0.mk (below_step (by repeat (first | (with_reducible first | exact HB.out | apply below_alloc | apply pw_below_drewN | apply below_drew1 | refine below_set ?_ GE181.out | refine below_set ?_ GE182.out | refine below_set ?_ GE183.out | refine below_set ?_ GE184.out) | exact HB.out)) hb); clear BK181; clear BK182; clear BK183; clear BK184; clear HB; have BK181 := n0_; have BK182 := n1_; have BK183 := n2_; have BK184 := n3_; have HB := n4_; clear n0_ n1_ n2_ n3_ n4_; (try clear hb); (try clear hb2); (try clear hk); (try clear hi)) | (go_at_call 108; (with_reducible refine (polygon_on.calls a0_0 a0_1 a1_0 a1_1 a3_0 a3_1 false _ A227.out).mono ?_); rintro e wx222d1 ⟨rfl, hb⟩; have n0_ := Aside0.mk (blk_below (g := gb181) (o := .cells #[.int .i64 a0_0, .int .i64 a0_1] 36 (0, 0)) (by (with_reducible repeat (first | refine blk_drewN ?_ _ | refine blk_drew ?_ | refine blk_alloc ?_ _)); exact BK181.out) hb); have n1_ := Aside0.mk (blk_below (g := gb182) (o := .cells #[.int .i64 a1_0, .int .i64 a1_1] 36 (0, 0)) (by (with_reducible repeat (first | refine blk_drewN ?_ _ | refine blk_drew ?_ | refine blk_alloc ?_ _)); exact BK182.out) hb); have n2_ := Aside0.mk (blk_below (g := gb183) (o := .cells #[.int .i64 a2_0, .int .i64 a2_1] 36 (0, 0)) (by (with_reducible repeat (first | refine blk_drewN ?_ _ | refine blk_drew ?_ | refine blk_alloc ?_ _)); exact BK183.out) hb); have n3_ := Aside0.mk (blk_below (g := gb184) (o := .cells #[.int .i64 a3_0, .int .i64 a3_1] 36 (0, 0)) (by (with_reducible repeat (first | refine blk_drewN ?_ _ | refine blk_drew ?_ | refine blk_alloc ?_ _)); exact BK184.out) hb); have n4_ := Aside0.mk (below_step (by repeat (first | (with_reducible first | exact HB.out | apply below_alloc | apply pw_below_drewN | apply below_drew1 | refine below_set ?_ GE181.out | refine below_set ?_ GE182.out | refine below_set ?_ GE183.out | refine below_set ?_ GE184.out) | exact HB.out)) hb); clear BK181; clear BK182; clear BK183; clear BK184; clear HB; have BK181 := n0_; have BK182 := n1_; have BK183 := n2_; have BK184 := n3_; have HB := n4_; clear n0_ n1_ n2_ n3_ n4_; (try clear hb); (try clear hb2); (try clear hk); (try clear hi); have hczyf1a5e0 : wx222d1.cell? ⟨gb183, 0, none⟩ = some (.int .i64 a2_0) := (blk_cell BK183.out 0).trans rfl; have hczyf1a5e1 : wx222d1.cell? ⟨gb183, 1, none⟩ = some (.int .i64 a2_1) := (blk_cell BK183.out 1).trans rfl; have hfzyf1a5e2 := blk_frozen BK183.out 0; have hfzyf1a5e3 := blk_frozen BK183.out 1; have hczyf1a5e4 : wx222d1.cell? ⟨gb184, 0, none⟩ = some (.int .i64 a3_0) := (blk_cell BK184.out 0).trans rfl; have hczyf1a5e5 : wx222d1.cell? ⟨gb184, 1, none⟩ = some (.int .i64 a3_1) := (blk_cell BK184.out 1).trans rfl; have hfzyf1a5e6 := blk_frozen BK184.out 0; have hfzyf1a5e7 := blk_frozen BK184.out 1; have hczyf1a5e8 : wx222d1.cell? ⟨gb181, 0, none⟩ = some (.int .i64 a0_0) := (blk_cell BK181.out 0).trans rfl; have hczyf1a5e9 : wx222d1.cell? ⟨gb181, 1, none⟩ = some (.int .i64 a0_1) := (blk_cell BK181.out 1).trans rfl; have hfzyf1a5e10 := blk_frozen BK181.out 0; have hfzyf1a5e11 := blk_frozen BK181.out 1; have hczyf1a5e12 : wx222d1.cell? ⟨gb182, 0, none⟩ = some (.int .i64 a1_0) := (blk_cell BK182.out 0).trans rfl; have hczyf1a5e13 : wx222d1.cell? ⟨gb182, 1, none⟩ = some (.int .i64 a1_1) := (blk_cell BK182.out 1).trans rfl; have hfzyf1a5e14 := blk_frozen BK182.out 0; have hfzyf1a5e15 := blk_frozen BK182.out 1) | (go_at_call 108; (with_reducible refine (polygon_on.calls a0_0 a0_1 a1_0 a1_1 a3_0 a3_1 true _ A227.out).mono ?_); rintro e wx2ef21 ⟨rfl, hb⟩; have n0_ := Aside0.mk (blk_below (g := gb181) (o := .cells #[.int .i64 a0_0, .int .i64 a0_1] 36 (0, 0)) (by (with_reducible repeat (first | refine blk_drewN ?_ _ | refine blk_drew ?_ | refine blk_alloc ?_ _)); exact BK181.out) hb); have n1_ := Aside0.mk (blk_below (g := gb182) (o := .cells #[.int .i64 a1_0, .int .i64 a1_1] 36 (0, 0)) (by (with_reducible repeat (first | refine blk_drewN ?_ _ | refine blk_drew ?_ | refine blk_alloc ?_ _)); exact BK182.out) hb); have n2_ := Aside0.mk (blk_below (g := gb183) (o := .cells #[.int .i64 a2_0, .int .i64 a2_1] 36 (0, 0)) (by (with_reducible repeat (first | refine blk_drewN ?_ _ | refine blk_drew ?_ | refine blk_alloc ?_ _)); exact BK183.out) hb); have n3_ := Aside0.mk (blk_below (g := gb184) (o := .cells #[.int .i64 a3_0, .int .i64 a3_1] 36 (0, 0)) (by (with_reducible repeat (first | refine blk_drewN ?_ _ | refine blk_drew ?_ | refine blk_alloc ?_ _)); exact BK184.out) hb); have n4_ := Aside0.mk (below_step (by repeat (first | (with_reducible first | exact HB.out | apply below_alloc | apply pw_below_drewN | apply below_drew1 | refine below_set ?_ GE181.out | refine below_set ?_ GE182.out | refine below_set ?_ GE183.out | refine below_set ?_ GE184.out) | exact HB.out)) hb); clear BK181; clear BK182; clear BK183; clear BK184; clear HB; have BK181 := n0_; have BK182 := n1_; have BK183 := n2_; have BK184 := n3_; have HB := n4_; clear n0_ n1_ n2_ n3_ n4_; (try clear hb); (try clear hb2); (try clear hk); (try clear hi)))
          go_ret
          exact ⟨by first | rfl | (simp [errW_none, errW_some] <;> rfl) | (simp [*, errW_none, errW_some] <;> rfl), by repeat (first | (with_reducible first | exact HB.out | apply below_alloc | apply pw_below_drewN | apply below_drew1 | refine below_set ?_ GE181.out | refine below_set ?_ GE182.out | refine below_set ?_ GE183.out | refine below_set ?_ GE184.out) | exact HB.out)⟩
     | (first | (have _hm := hm3_3) | (have _hm := hm3_4))
       have hnbzc1 := NB183_181.out
       have hnczc1 := NB181_183.out
       have hnbzc2 := NB183_182.out
       have hnczc2 := NB182_183.out
       have hnbzc3 := NB183_184.out
       have hnczc3 := NB184_183.out
       have hczzc1 : wc.cell? ⟨gb183, 0, none⟩ = some (.int .i64 a2_0) := (blk_cell BK183.out 0).trans rfl
       have hczzc2 : wc.cell? ⟨gb183, 1, none⟩ = some (.int .i64 a2_1) := (blk_cell BK183.out 1).trans rfl
       have hfzzc1 := blk_frozen BK183.out 0
       have hfzzc2 := blk_frozen BK183.out 1
       have hnbzc4 := NB184_181.out
       have hnczc4 := NB181_184.out
       have hnbzc5 := NB184_182.out
       have hnczc5 := NB182_184.out
       have hczzc3 : wc.cell? ⟨gb184, 0, none⟩ = some (.int .i64 a3_0) := (blk_cell BK184.out 0).trans rfl
       have hczzc4 : wc.cell? ⟨gb184, 1, none⟩ = some (.int .i64 a3_1) := (blk_cell BK184.out 1).trans rfl
       have hfzzc3 := blk_frozen BK184.out 0
       have hfzzc4 := blk_frozen BK184.out 1
       first
        | clear hm3_3
          have hnbzc6 := NB181_182.out
          have hnczc6 := NB182_181.out
          have hczzc5 : wc.cell? ⟨gb181, 0, none⟩ = some (.int .i64 a0_0) := (blk_cell BK181.out 0).trans rfl
          have hczzc6 : wc.cell? ⟨gb181, 1, none⟩ = some (.int .i64 a0_1) := (blk_cell BK181.out 1).trans rfl
          have hfzzc5 := blk_frozen BK181.out 0
          have hfzzc6 := blk_frozen BK181.out 1
          go_wp2_with (first | (go_at_call 108; (with_reducible refine (polygon_on.calls a2_0 a2_1 a3_0 a3_1 a1_0 a1_1 t202 _ A330.out).mono ?_); rintro e wxb6cf1 ⟨rfl, hb⟩; have n0_ := Aside0.mk (blk_below (g := gb181) (o := .cells #[.int .i64 a0_0, .int .i64 a0_1] 36 (0, 0)) (by (with_reducible repeat (first | refine blk_drewN ?_ _ | refine blk_drew ?_ | refine blk_alloc ?_ _)); exact BK181.out) hb); have n1_ := Aside0.mk (blk_below (g := gb182) (o := .cells #[.int .i64 a1_0, .int .i64 a1_1] 36 (0, 0)) (by (with_reducible repeat (first | refine blk_drewN ?_ _ | refine blk_drew ?_ | refine blk_alloc ?_ _)); exact BK182.out) hb); have n2_ := Aside0.mk (blk_below (g := gb183) (o := .cells #[.int .i64 a2_0, .int .i64 a2_1] 36 (0, 0)) (by (with_reducible repeat (first | refine blk_drewN ?_ _ | refine blk_drew ?_ | refine blk_alloc ?_ _)); exact BK183.out) hb); have n3_ := Aside0.mk (blk_below (g := gb184) (o := .cells #[.int .i64 a3_0, .int .i64 a3_1] 36 (0, 0)) (by (with_reducible repeat (first | refine blk_drewN ?_ _ | refine blk_drew ?_ | refine blk_alloc ?_ _)); exact BK184.out) hb); have n4_ := Aside0.mk (below_step (by repeat (first | (with_reducible first | exact HB.out | apply below_alloc | apply pw_below_drewN | apply below_drew1 | refine below_set ?_ GE181.out | refine below_set ?_ GE182.out | refine below_set ?_ GE183.out | refine below_set ?_ GE184.out) | exact HB.out)) hb); clear BK181; clear BK182; clear BK183; clear BK184; clear HB; have BK181 := n0_; have BK182 := n1_; have BK183 := n2_; have BK184 := n3_; have HB := n4_; clear n0_ n1_ n2_ n3_ n4_; (try clear hb); (try clear hb2); (try clear hk); (try clear hi)) | (go_at_call 108; (with_reducible refine (polygon_on.calls a2_0 a2_1 a3_0 a3_1 a0_0 a0_1 false _ A317.out).mono ?_); rintro e wxf4c91 ⟨rfl, hb⟩; have n0_ := Aside0.mk (blk_below (g := gb181) (o := .cells #[.int .i64 a0_0, .int .i64 a0_1] 36 (0, 0)) (by (with_reducible repeat (first | refine blk_drewN ?_ _ | refine blk_drew ?_ | refine blk_alloc ?_ _)); exact BK181.out) hb); have n1_ := Aside0.mk (blk_below (g := gb182) (o := .cells #[.int .i64 a1_0, .int .i64 a1_1] 36 (0, 0)) (by (with_reducible repeat (first | refine blk_drewN ?_ _ | refine blk_drew ?_ | refine blk_alloc ?_ _)); exact BK182.out) hb); have n2_ := Aside0.mk (blk_below (g := gb183) (o := .cells #[.int .i64 a2_0, .int .i64 a2_1] 36 (0, 0)) (by (with_reducible repeat (first | refine blk_drewN ?_ _ | refine blk_drew ?_ | refine blk_alloc ?_ _)); exact BK183.out) hb); have n3_ := Aside0.mk (blk_below (g := gb184) (o := .cells #[.int .i64 a3_0, .int .i64 a3_1] 36 (0, 0)) (by (with_reducible repeat (first | refine blk_drewN ?_ _ | refine blk_drew ?_ | refine blk_alloc ?_ _)); exact BK184.out) hb); have n4_ := Aside0.mk (below_step (by repeat (first | (with_reducible first | exact HB.out | apply below_alloc | apply pw_below_drewN | apply below_drew1 | refine below_set ?_ GE181.out | refine below_set ?_ GE182.out | refine below_set ?_ GE183.out | refine below_set ?_ GE184.out) | exact HB.out)) hb); clear BK181; clear BK182; clear BK183; clear BK184; clear HB; have BK181 := n0_; have BK182 := n1_; have BK183 := n2_; have BK184 := n3_; have HB := n4_; clear n0_ n1_ n2_ n3_ n4_; (try clear hb); (try clear hb2); (try clear hk); (try clear hi); have hczyfc43d0 : wxf4c91.cell? ⟨gb183, 0, none⟩ = some (.int .i64 a2_0) := (blk_cell BK183.out 0).trans rfl; have hczyfc43d1 : wxf4c91.cell? ⟨gb183, 1, none⟩ = some (.int .i64 a2_1) := (blk_cell BK183.out 1).trans rfl; have hfzyfc43d2 := blk_frozen BK183.out 0; have hfzyfc43d3 := blk_frozen BK183.out 1; have hczyfc43d4 : wxf4c91.cell? ⟨gb184, 0, none⟩ = some (.int .i64 a3_0) := (blk_cell BK184.out 0).trans rfl; have hczyfc43d5 : wxf4c91.cell? ⟨gb184, 1, none⟩ = some (.int .i64 a3_1) := (blk_cell BK184.out 1).trans rfl; have hfzyfc43d6 := blk_frozen BK184.out 0; have hfzyfc43d7 := blk_frozen BK184.out 1; have hczyfc43d8 : wxf4c91.cell? ⟨gb182, 0, none⟩ = some (.int .i64 a1_0) := (blk_cell BK182.out 0).trans rfl; have hczyfc43d9 : wxf4c91.cell? ⟨gb182, 1, none⟩ = some (.int .i64 a1_1) := (blk_cell BK182.out 1).trans rfl; have hfzyfc43d10 := blk_frozen BK182.out 0; have hfzyfc43d11 := blk_frozen BK182.out 1) | (go_at_call 108; (with_reducible refine (polygon_on.calls a2_0 a2_1 a3_0 a3_1 a0_0 a0_1 true _ A317.out).mono ?_); rintro e wx7f121 ⟨rfl, hb⟩; have n0_ := Aside0.mk (blk_below (g := gb181) (o := .cells #[.int .i64 a0_0, .int .i64 a0_1] 36 (0, 0)) (by (with_reducible repeat (first | refine blk_drewN ?_ _ | refine blk_drew ?_ | refine blk_alloc ?_ _)); exact BK181.out) hb); have n1_ := Aside0.mk (blk_below (g := gb182) (o := .cells #[.int .i64 a1_0, .int .i64 a1_1] 36 (0, 0)) (by (with_reducible repeat (first | refine blk_drewN ?_ _ | refine blk_drew ?_ | refine blk_alloc ?_ _)); exact BK182.out) hb); have n2_ := Aside0.mk (blk_below (g := gb183) (o := .cells #[.int .i64 a2_0, .int .i64 a2_1] 36 (0, 0)) (by (with_reducible repeat (first | refine blk_drewN ?_ _ | refine blk_drew ?_ | refine blk_alloc ?_ _)); exact BK183.out) hb); have n3_ := Aside0.mk (blk_below (g := gb184) (o := .cells #[.int .i64 a3_0, .int .i64 a3_1] 36 (0, 0)) (by (with_reducible repeat (first | refine blk_drewN ?_ _ | refine blk_drew ?_ | refine blk_alloc ?_ _)); exact BK184.out) hb); have n4_ := Aside0.mk (below_step (by repeat (first | (with_reducible first | exact HB.out | apply below_alloc | apply pw_below_drewN | apply below_drew1 | refine below_set ?_ GE181.out | refine below_set ?_ GE182.out | refine below_set ?_ GE183.out | refine below_set ?_ GE184.out) | exact HB.out)) hb); clear BK181; clear BK182; clear BK183; clear BK184; clear HB; have BK181 := n0_; have BK182 := n1_; have BK183 := n2_; have BK184 := n3_; have HB := n4_; clear n0_ n1_ n2_ n3_ n4_; (try clear hb); (try clear hb2); (try clear hk); (try clear hi)))
          go_ret
          exact ⟨by first | rfl | (simp [errW_none, errW_some] <;> rfl) | (simp [*, errW_none, errW_some] <;> rfl), by repeat (first | (with_reducible first | exact HB.out | apply below_alloc | apply pw_below_drewN | apply below_drew1 | refine below_set ?_ GE181.out | refine below_set ?_ GE182.out | refine below_set ?_ GE183.out | refine below_set ?_ GE184.out) | exact HB.out)⟩
        | clear hm3_4
          have hnbzc6 := NB182_181.out
          have hnczc6 := NB181_182.out
          have hczzc5 : wc.cell? ⟨gb182, 0, none⟩ = some (.int .i64 a1_0) := (blk_cell BK182.out 0).trans rfl
          have hczzc6 : wc.cell? ⟨gb182, 1, none⟩ = some (.int .i64 a1_1) := (blk_cell BK182.out 1).trans rfl
          have hfzzc5 := blk_frozen BK182.out 0
          have hfzzc6 := blk_frozen BK182.out 1
          go_wp2_with (first | (go_at_call 108; (with_reducible refine (polygon_on.calls a2_0 a2_1 a3_0 a3_1 a1_0 a1_1 t203 _ A356.out).mono ?_); rintro e wx21971 ⟨rfl, hb⟩; have n0_ := Aside0.mk (blk_below (g := gb181) (o := .cells #[.int .i64 a0_0, .int .i64 a0_1] 36 (0, 0)) (by (with_reducible repeat (first | refine blk_drewN ?_ _ | refine blk_drew ?_ | refine blk_alloc ?_ _)); exact BK181.out) hb); have n1_ := Aside0.mk (blk_below (g := gb182) (o := .cells #[.int .i64 a1_0, .int .i64 a1_1] 36 (0, 0)) (by (with_reducible repeat (first | refine blk_drewN ?_ _ | refine blk_drew ?_ | refine blk_alloc ?_ _)); exact BK182.out) hb); have n2_ := Aside0.mk (blk_below (g := gb183) (o := .cells #[.int .i64 a2_0, .int .i64 a2_1] 36 (0, 0)) (by (with_reducible repeat (first | refine blk_drewN ?_ _ | refine blk_drew ?_ | refine blk_alloc ?_ _)); exact BK183.out) hb); have n3_ := Aside0.mk (blk_below (g := gb184) (o := .cells #[.int .i64 a3_0, .int .i64 a3_1] 36 (0, 0)) (by (with_reducible repeat (first | refine blk_drewN ?_ _ | refine blk_drew ?_ | refine blk_alloc ?_ _)); exact BK184.out) hb); have n4_ := Aside0.mk (below_step (by repeat (first | (with_reducible first | exact HB.out | apply below_alloc | apply pw_below_drewN | apply below_drew1 | refine below_set ?_ GE181.out | refine below_set ?_ GE182.out | refine below_set ?_ GE183.out | refine below_set ?_ GE184.out) | exact HB.out)) hb); clear BK181; clear BK182; clear BK183; clear BK184; clear HB; have BK181 := n0_; have BK182 := n1_; have BK183 := n2_; have BK184 := n3_; have HB := n4_; clear n0_ n1_ n2_ n3_ n4_; (try clear hb); (try clear hb2); (try clear hk); (try clear hi)))
          go_ret
          exact ⟨by first | rfl | (simp [errW_none, errW_some] <;> rfl) | (simp [*, errW_none, errW_some] <;> rfl), by repeat (first | (with_reducible first | exact HB.out | apply below_alloc | apply pw_below_drewN | apply below_drew1 | refine below_set ?_ GE181.out | refine below_set ?_ GE182.out | refine below_set ?_ GE183.out | refine below_set ?_ GE184.out) | exact HB.out)⟩

end Go.Proofs.Ytbpbpojnfhhbjaa.PFlyClosed
