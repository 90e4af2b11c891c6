/- Made by a program of this session (wip/tools/myprint.py, over the kit's printer): that the Go functions answer as the Lean functions printed beside them. -/
import Derived.Test.YteaddpieonkboaaPVolumeHasx0
import Derived.Test.YteaddpieonkboaaPVolumeHasx2
namespace Go.Proofs.Yteaddpieonkboaa.PVolumeHas
open Go.RowKit Go.Proofs.YteaddpieonkboaaW.PrintWords Go.Proofs.YteaddpieonkboaaW.PrintLast Go.Proofs.YteaddpieonkboaaW.PrintMore
attribute [local go_sem] max2_int min2_int max_two min_two max_three min_three max_four min_four   -- for this text's walks alone
set_option linter.unusedVariables false
set_option linter.unusedSimpArgs false

/-! ### polygon_Common: function 51 -/
def polygon_Common.j0 : Nat → Int → Int → Int → Int → Bool → Int → Int → Int → Int → Int → Int → Int → Int → Option (Bool)
  | 0, _, _, _, _, _, _, _, _, _, _, _, _, _ => none
  | k + 1, x9, x10, x11, x12, x38, x130000, x130001, x131000, x131001, x132000, x132001, x133000, x133001 => if x38 = true then (some true) else (if x9 = 0 then ((polygon_on.f x130000 x130001 x131000 x131001 x132000 x132001).bind fun t137 => (if t137 = true then (some true) else (if x10 = 0 then ((polygon_on.f x130000 x130001 x131000 x131001 x133000 x133001).bind fun t138 => (if t138 = true then (some true) else (if x11 = 0 then ((polygon_on.f x132000 x132001 x133000 x133001 x130000 x130001).bind fun t139 => (if t139 = true then (some true) else (if x12 = 0 then ((polygon_on.f x132000 x132001 x133000 x133001 x131000 x131001).bind fun t140 => (some t140)) else (some false)))) else (if x12 = 0 then ((polygon_on.f x132000 x132001 x133000 x133001 x131000 x131001).bind fun t141 => (some t141)) else (some false))))) else (if x11 = 0 then ((polygon_on.f x132000 x132001 x133000 x133001 x130000 x130001).bind fun t142 => (if t142 = true then (some true) else (if x12 = 0 then ((polygon_on.f x132000 x132001 x133000 x133001 x131000 x131001).bind fun t143 => (some t143)) else (some false)))) else (if x12 = 0 then ((polygon_on.f x132000 x132001 x133000 x133001 x131000 x131001).bind fun t144 => (some t144)) else (some false)))))) else (if x10 = 0 then ((polygon_on.f x130000 x130001 x131000 x131001 x133000 x133001).bind fun t145 => (if t145 = true then (some true) else (if x11 = 0 then ((polygon_on.f x132000 x132001 x133000 x133001 x130000 x130001).bind fun t146 => (if t146 = true then (some true) else (if x12 = 0 then ((polygon_on.f x132000 x132001 x133000 x133001 x131000 x131001).bind fun t147 => (some t147)) else (some false)))) else (if x12 = 0 then ((polygon_on.f x132000 x132001 x133000 x133001 x131000 x131001).bind fun t148 => (some t148)) else (some false))))) else (if x11 = 0 then ((polygon_on.f x132000 x132001 x133000 x133001 x130000 x130001).bind fun t149 => (if t149 = true then (some true) else (if x12 = 0 then ((polygon_on.f x132000 x132001 x133000 x133001 x131000 x131001).bind fun t150 => (some t150)) else (some false)))) else (if x12 = 0 then ((polygon_on.f x132000 x132001 x133000 x133001 x131000 x131001).bind fun t151 => (some t151)) else (some false)))))
def polygon_Common.f (k : Nat) (a0_0 : Int) (a0_1 : Int) (a1_0 : Int) (a1_1 : Int) (a2_0 : Int) (a2_1 : Int) (a3_0 : Int) (a3_1 : Int) : Option (Bool) := (plane_Turn.f a0_0 a0_1 a1_0 a1_1 a2_0 a2_1).bind fun t133 => ((plane_Turn.f a0_0 a0_1 a1_0 a1_1 a3_0 a3_1).bind fun t134 => ((plane_Turn.f a2_0 a2_1 a3_0 a3_1 a0_0 a0_1).bind fun t135 => ((plane_Turn.f a2_0 a2_1 a3_0 a3_1 a1_0 a1_1).bind fun t136 => (if (wrap64 (t133 * t134)) < 0 then (polygon_Common.j0 k t133 t134 t135 t136 (decide ((wrap64 (t135 * t136)) < 0)) a0_0 a0_1 a1_0 a1_1 a2_0 a2_1 a3_0 a3_1) else (polygon_Common.j0 k t133 t134 t135 t136 false a0_0 a0_1 a1_0 a1_1 a2_0 a2_1 a3_0 a3_1)))))
theorem polygon_Common.mono_l : ∀ k, (∀ y0 y1 y2 y3 y4 y5 y6 y7 y8 y9 y10 y11 y12, LeO (polygon_Common.j0 k y0 y1 y2 y3 y4 y5 y6 y7 y8 y9 y10 y11 y12) (polygon_Common.j0 (k + 1) y0 y1 y2 y3 y4 y5 y6 y7 y8 y9 y10 y11 y12))
  | 0 => fun _ _ _ _ _ _ _ _ _ _ _ _ _ r h => by simp [polygon_Common.j0] at h
  | k + 1 => by
    have ih0 := polygon_Common.mono_l k
    · intro y0 y1 y2 y3 y4 y5 y6 y7 y8 y9 y10 y11 y12
      unfold polygon_Common.j0
      repeat' first
      | (with_reducible exact ih0 _ _ _ _ _ _ _ _ _ _ _ _ _)
      | (with_reducible exact LeO.refl _)
      | (with_reducible exact LeO.none _)
      | (with_reducible refine LeO.ite ?_ ?_)
      | (with_reducible refine LeO.bind ?_ (fun _ => ?_))
      | exact ih0 _ _ _ _ _ _ _ _ _ _ _ _ _
      | exact LeO.none _
      | refine LeO.ite ?_ ?_
      | refine LeO.bind ?_ (fun _ => ?_)
theorem polygon_Common.mono : ∀ a0 a1 a2 a3 a4 a5 a6 a7 k, LeO (polygon_Common.f k a0 a1 a2 a3 a4 a5 a6 a7) (polygon_Common.f (k + 1) a0 a1 a2 a3 a4 a5 a6 a7) := by
  intro a0 a1 a2 a3 a4 a5 a6 a7 k
  have ih0 := polygon_Common.mono_l k
  unfold polygon_Common.f
  repeat' first
      | (with_reducible exact ih0 _ _ _ _ _ _ _ _ _ _ _ _ _)
      | (with_reducible exact LeO.refl _)
      | (with_reducible exact LeO.none _)
      | (with_reducible refine LeO.ite ?_ ?_)
      | (with_reducible refine LeO.bind ?_ (fun _ => ?_))
      | exact ih0 _ _ _ _ _ _ _ _ _ _ _ _ _
      | exact LeO.none _
      | refine LeO.ite ?_ ?_
      | refine LeO.bind ?_ (fun _ => ?_)
def polygon_Common.T1 : Bool × List (List Nat × List Nat) := (true, [([], []), ([], []), ([], []), ([0, 1, 2], [0, 1, 2]), ([], []), ([], []), ([], []), ([4, 5, 6, 3], [4, 5, 6]), ([3, 7, 0, 1, 2, 3], [3]), ([7, 8, 0, 1, 2, 3, 4, 5, 6, 7, 8], [7])])
def polygon_Common.B1 : List Nat := [0, 0, 0, 7, 0, 0, 0, 127, 255, 511]
theorem polygon_Common.tab1 : rtab .any (opsOf Try.f51 1) = polygon_Common.T1 := by kernel_rfl
theorem polygon_Common.bits1 : waitsOk polygon_Common.T1.2 polygon_Common.B1 = true := by kernel_rfl
def polygon_Common.T2 : Bool × List (List Nat × List Nat) := (true, [([], []), ([], []), ([], []), ([0, 1, 2], [0, 1, 2]), ([], []), ([], []), ([], []), ([4, 5, 6, 3], [4, 5, 6]), ([3, 7, 0, 1, 2, 3], [3]), ([7, 8, 0, 1, 2, 3, 4, 5, 6, 7, 8], [7])])
def polygon_Common.B2 : List Nat := [0, 0, 0, 7, 0, 0, 0, 127, 255, 511]
theorem polygon_Common.tab2 : rtab .any (opsOf Try.f51 2) = polygon_Common.T2 := by kernel_rfl
theorem polygon_Common.bits2 : waitsOk polygon_Common.T2.2 polygon_Common.B2 = true := by kernel_rfl
set_option maxHeartbeats 8000000 in
set_option maxRecDepth 100000 in
theorem polygon_Common.calls (k : Nat) (a0_0 : Int) (a0_1 : Int) (a1_0 : Int) (a1_1 : Int) (a2_0 : Int) (a2_1 : Int) (a3_0 : Int) (a3_1 : Int) (r : Bool) (w : World) (h : polygon_Common.f k a0_0 a0_1 a1_0 a1_1 a2_0 a2_1 a3_0 a3_1 = some r) :
    Calls Try.prog 51 #[.agg #[.int .i64 a0_0, .int .i64 a0_1], .agg #[.int .i64 a1_0, .int .i64 a1_1], .agg #[.int .i64 a2_0, .int .i64 a2_1], .agg #[.int .i64 a3_0, .int .i64 a3_1]] w fun e w' => e = .returned (.bool r) ∧ Below w.heap.size w w' := by
 have hu25 := Try.underlying25
 have HB := Aside0.mk (Below.refl w.heap.size w)
 have H : ((plane_Turn.f a0_0 a0_1 a1_0 a1_1 a2_0 a2_1).bind fun t133 => ((plane_Turn.f a0_0 a0_1 a1_0 a1_1 a3_0 a3_1).bind fun t134 => ((plane_Turn.f a2_0 a2_1 a3_0 a3_1 a0_0 a0_1).bind fun t135 => ((plane_Turn.f a2_0 a2_1 a3_0 a3_1 a1_0 a1_1).bind fun t136 => (if (wrap64 (t133 * t134)) < 0 then (polygon_Common.j0 k t133 t134 t135 t136 (decide ((wrap64 (t135 * t136)) < 0)) a0_0 a0_1 a1_0 a1_1 a2_0 a2_1 a3_0 a3_1) else (polygon_Common.j0 k t133 t134 t135 t136 false a0_0 a0_1 a1_0 a1_1 a2_0 a2_1 a3_0 a3_1)))))) = some r := h
 clear h
 replace H := Option.bind_eq_some_iff.mp H
 obtain ⟨t133, A50, H⟩ := H
 replace H : ((plane_Turn.f a0_0 a0_1 a1_0 a1_1 a3_0 a3_1).bind fun t134 => ((plane_Turn.f a2_0 a2_1 a3_0 a3_1 a0_0 a0_1).bind fun t135 => ((plane_Turn.f a2_0 a2_1 a3_0 a3_1 a1_0 a1_1).bind fun t136 => (if (wrap64 (t133 * t134)) < 0 then (polygon_Common.j0 k t133 t134 t135 t136 (decide ((wrap64 (t135 * t136)) < 0)) a0_0 a0_1 a1_0 a1_1 a2_0 a2_1 a3_0 a3_1) else (polygon_Common.j0 k t133 t134 t135 t136 false a0_0 a0_1 a1_0 a1_1 a2_0 a2_1 a3_0 a3_1))))) = some r := H
 have A5 := Aside0.mk A50
 clear A50
 replace H := Option.bind_eq_some_iff.mp H
 obtain ⟨t134, A60, H⟩ := H
 replace H : ((plane_Turn.f a2_0 a2_1 a3_0 a3_1 a0_0 a0_1).bind fun t135 => ((plane_Turn.f a2_0 a2_1 a3_0 a3_1 a1_0 a1_1).bind fun t136 => (if (wrap64 (t133 * t134)) < 0 then (polygon_Common.j0 k t133 t134 t135 t136 (decide ((wrap64 (t135 * t136)) < 0)) a0_0 a0_1 a1_0 a1_1 a2_0 a2_1 a3_0 a3_1) else (polygon_Common.j0 k t133 t134 t135 t136 false a0_0 a0_1 a1_0 a1_1 a2_0 a2_1 a3_0 a3_1)))) = some r := H
 have A6 := Aside0.mk A60
 clear A60
 replace H := Option.bind_eq_some_iff.mp H
 obtain ⟨t135, A70, H⟩ := H
 replace H : ((plane_Turn.f a2_0 a2_1 a3_0 a3_1 a1_0 a1_1).bind fun t136 => (if (wrap64 (t133 * t134)) < 0 then (polygon_Common.j0 k t133 t134 t135 t136 (decide ((wrap64 (t135 * t136)) < 0)) a0_0 a0_1 a1_0 a1_1 a2_0 a2_1 a3_0 a3_1) else (polygon_Common.j0 k t133 t134 t135 t136 false a0_0 a0_1 a1_0 a1_1 a2_0 a2_1 a3_0 a3_1))) = some r := H
 have A7 := Aside0.mk A70
 clear A70
 replace H := Option.bind_eq_some_iff.mp H
 obtain ⟨t136, A80, H⟩ := H
 replace H : (if (wrap64 (t133 * t134)) < 0 then (polygon_Common.j0 k t133 t134 t135 t136 (decide ((wrap64 (t135 * t136)) < 0)) a0_0 a0_1 a1_0 a1_1 a2_0 a2_1 a3_0 a3_1) else (polygon_Common.j0 k t133 t134 t135 t136 false a0_0 a0_1 a1_0 a1_1 a2_0 a2_1 a3_0 a3_1)) = some r := H
 have A8 := Aside0.mk A80
 clear A80
 have HC9 := Aside0.mk H
 clear H
 go_enter Try.func51, Try.ntmps51
 try go_wp2_with (first | ((with_reducible refine gate_dst (N := 4) rfl ?_); refine box_event ?hg (N := 4) ?hd (cs := #[.int .i64 a0_0, .int .i64 a0_1]) (t := 25) ?hr ?_; (case hd => rfl); (case hg => rfl); (case hr => first | (go_simp; done) | (go_simp; rfl)); intro gb129 hg w10 hbox hb; have n0_ := Aside0.mk (below_step (by repeat (first | (with_reducible first | exact HB.out | apply below_alloc | apply pw_below_drewN | apply below_drew1) | exact HB.out)) hb); have n1_ := Aside0.mk (hbox); have n2_ := Aside0.mk ((by rw [hg]; exact (below_size (by repeat (first | (with_reducible first | exact HB.out | apply below_alloc | apply pw_below_drewN | apply below_drew1) | exact HB.out))) : w.heap.size ≤ gb129)); have n3_ := Aside0.mk ((by rw [hg]; exact (below_size (by repeat (first | (with_reducible first | exact HB.out | apply below_alloc | apply pw_below_drewN | apply below_drew1) | exact HB.out))) : w.heap.size ≤ gb129)); clear HB; have HB := n0_; have BK129 := n1_; have GW129 := n2_; have GE129 := n3_; clear n0_ n1_ n2_ n3_; clear hb hbox hg) | ((with_reducible refine gate_dst (N := 5) rfl ?_); refine box_event ?hg (N := 5) ?hd (cs := #[.int .i64 a1_0, .int .i64 a1_1]) (t := 25) ?hr ?_; (case hd => rfl); (case hg => rfl); (case hr => first | (go_simp; done) | (go_simp; rfl)); intro gb130 hg w11 hbox hb; have n0_ := Aside0.mk (blk_below (g := gb129) (o := .cells #[.int .i64 a0_0, .int .i64 a0_1] 25 (0, 0)) (by (with_reducible repeat (first | refine blk_drewN ?_ _ | refine blk_drew ?_ | refine blk_alloc ?_ _)); exact BK129.out) hb); have n1_ := Aside0.mk (below_step (by repeat (first | (with_reducible first | exact HB.out | apply below_alloc | apply pw_below_drewN | apply below_drew1 | refine below_set ?_ GE129.out) | exact HB.out)) hb); have n2_ := Aside0.mk (hbox); have n3_ := Aside0.mk ((by rw [hg]; exact (below_size (by repeat (first | (with_reducible first | exact HB.out | apply below_alloc | apply pw_below_drewN | apply below_drew1 | refine below_set ?_ GE129.out) | exact HB.out))) : w.heap.size ≤ gb130)); have n4_ := Aside0.mk ((by rw [hg]; exact (below_size (by repeat (first | (with_reducible first | exact HB.out | apply below_alloc | apply pw_below_drewN | apply below_drew1 | refine below_set ?_ GE129.out) | exact HB.out))) : w.heap.size ≤ gb130)); have n5_ := Aside0.mk ((by rw [hg]; exact Nat.ne_of_lt (blk_lt (g := gb129) (o := .cells #[.int .i64 a0_0, .int .i64 a0_1] 25 (0, 0)) (by (with_reducible repeat (first | refine blk_drewN ?_ _ | refine blk_drew ?_ | refine blk_alloc ?_ _)); exact BK129.out)) : gb129 ≠ gb130)); have n6_ := Aside0.mk ((by rw [hg]; exact Nat.ne_of_gt (blk_lt (g := gb129) (o := .cells #[.int .i64 a0_0, .int .i64 a0_1] 25 (0, 0)) (by (with_reducible repeat (first | refine blk_drewN ?_ _ | refine blk_drew ?_ | refine blk_alloc ?_ _)); exact BK129.out)) : gb130 ≠ gb129)); clear BK129; clear HB; have BK129 := n0_; have HB := n1_; have BK130 := n2_; have GW130 := n3_; have GE130 := n4_; have NB129_130 := n5_; have NB130_129 := n6_; clear n0_ n1_ n2_ n3_ n4_ n5_ n6_; clear hb hbox hg) | ((with_reducible refine gate_dst (N := 6) rfl ?_); refine box_event ?hg (N := 6) ?hd (cs := #[.int .i64 a2_0, .int .i64 a2_1]) (t := 25) ?hr ?_; (case hd => rfl); (case hg => rfl); (case hr => first | (go_simp; done) | (go_simp; rfl)); intro gb131 hg w12 hbox hb; have n0_ := Aside0.mk (blk_below (g := gb129) (o := .cells #[.int .i64 a0_0, .int .i64 a0_1] 25 (0, 0)) (by (with_reducible repeat (first | refine blk_drewN ?_ _ | refine blk_drew ?_ | refine blk_alloc ?_ _)); exact BK129.out) hb); have n1_ := Aside0.mk (blk_below (g := gb130) (o := .cells #[.int .i64 a1_0, .int .i64 a1_1] 25 (0, 0)) (by (with_reducible repeat (first | refine blk_drewN ?_ _ | refine blk_drew ?_ | refine blk_alloc ?_ _)); exact BK130.out) hb); have n2_ := Aside0.mk (below_step (by repeat (first | (with_reducible first | exact HB.out | apply below_alloc | apply pw_below_drewN | apply below_drew1 | refine below_set ?_ GE129.out | refine below_set ?_ GE130.out) | exact HB.out)) hb); have n3_ := Aside0.mk (hbox); have n4_ := Aside0.mk ((by rw [hg]; exact (below_size (by repeat (first | (with_reducible first | exact HB.out | apply below_alloc | apply pw_below_drewN | apply below_drew1 | refine below_set ?_ GE129.out | refine below_set ?_ GE130.out) | exact HB.out))) : w.heap.size ≤ gb131)); have n5_ := Aside0.mk ((by rw [hg]; exact (below_size (by repeat (first | (with_reducible first | exact HB.out | apply below_alloc | apply pw_below_drewN | apply below_drew1 | refine below_set ?_ GE129.out | refine below_set ?_ GE130.out) | exact HB.out))) : w.heap.size ≤ gb131)); have n6_ := Aside0.mk ((by rw [hg]; exact Nat.ne_of_lt (blk_lt (g := gb129) (o := .cells #[.int .i64 a0_0, .int .i64 a0_1] 25 (0, 0)) (by (with_reducible repeat (first | refine blk_drewN ?_ _ | refine blk_drew ?_ | refine blk_alloc ?_ _)); exact BK129.out)) : gb129 ≠ gb131)); have n7_ := Aside0.mk ((by rw [hg]; exact Nat.ne_of_gt (blk_lt (g := gb129) (o := .cells #[.int .i64 a0_0, .int .i64 a0_1] 25 (0, 0)) (by (with_reducible repeat (first | refine blk_drewN ?_ _ | refine blk_drew ?_ | refine blk_alloc ?_ _)); exact BK129.out)) : gb131 ≠ gb129)); have n8_ := Aside0.mk ((by rw [hg]; exact Nat.ne_of_lt (blk_lt (g := gb130) (o := .cells #[.int .i64 a1_0, .int .i64 a1_1] 25 (0, 0)) (by (with_reducible repeat (first | refine blk_drewN ?_ _ | refine blk_drew ?_ | refine blk_alloc ?_ _)); exact BK130.out)) : gb130 ≠ gb131)); have n9_ := Aside0.mk ((by rw [hg]; exact Nat.ne_of_gt (blk_lt (g := gb130) (o := .cells #[.int .i64 a1_0, .int .i64 a1_1] 25 (0, 0)) (by (with_reducible repeat (first | refine blk_drewN ?_ _ | refine blk_drew ?_ | refine blk_alloc ?_ _)); exact BK130.out)) : gb131 ≠ gb130)); clear BK129; clear BK130; clear HB; have BK129 := n0_; have BK130 := n1_; have HB := n2_; have BK131 := n3_; have GW131 := n4_; have GE131 := n5_; have NB129_131 := n6_; have NB131_129 := n7_; have NB130_131 := n8_; have NB131_130 := n9_; clear n0_ n1_ n2_ n3_ n4_ n5_ n6_ n7_ n8_ n9_; clear hb hbox hg) | ((with_reducible refine gate_dst (N := 7) rfl ?_); refine box_event ?hg (N := 7) ?hd (cs := #[.int .i64 a3_0, .int .i64 a3_1]) (t := 25) ?hr ?_; (case hd => rfl); (case hg => rfl); (case hr => first | (go_simp; done) | (go_simp; rfl)); intro gb132 hg w13 hbox hb; have n0_ := Aside0.mk (blk_below (g := gb129) (o := .cells #[.int .i64 a0_0, .int .i64 a0_1] 25 (0, 0)) (by (with_reducible repeat (first | refine blk_drewN ?_ _ | refine blk_drew ?_ | refine blk_alloc ?_ _)); exact BK129.out) hb); have n1_ := Aside0.mk (blk_below (g := gb130) (o := .cells #[.int .i64 a1_0, .int .i64 a1_1] 25 (0, 0)) (by (with_reducible repeat (first | refine blk_drewN ?_ _ | refine blk_drew ?_ | refine blk_alloc ?_ _)); exact BK130.out) hb); have n2_ := Aside0.mk (blk_below (g := gb131) (o := .cells #[.int .i64 a2_0, .int .i64 a2_1] 25 (0, 0)) (by (with_reducible repeat (first | refine blk_drewN ?_ _ | refine blk_drew ?_ | refine blk_alloc ?_ _)); exact BK131.out) hb); have n3_ := Aside0.mk (below_step (by repeat (first | (with_reducible first | exact HB.out | apply below_alloc | apply pw_below_drewN | apply below_drew1 | refine below_set ?_ GE129.out | refine below_set ?_ GE130.out | refine below_set ?_ GE131.out) | exact HB.out)) hb); have n4_ := Aside0.mk (hbox); have n5_ := Aside0.mk ((by rw [hg]; exact (below_size (by repeat (first | (with_reducible first | exact HB.out | apply below_alloc | apply pw_below_drewN | apply below_drew1 | refine below_set ?_ GE129.out | refine below_set ?_ GE130.out | refine below_set ?_ GE131.out) | exact HB.out))) : w.heap.size ≤ gb132)); have n6_ := Aside0.mk ((by rw [hg]; exact (below_size (by repeat (first | (with_reducible first | exact HB.out | apply below_alloc | apply pw_below_drewN | apply below_drew1 | refine below_set ?_ GE129.out | refine below_set ?_ GE130.out | refine below_set ?_ GE131.out) | exact HB.out))) : w.heap.size ≤ gb132)); have n7_ := Aside0.mk ((by rw [hg]; exact Nat.ne_of_lt (blk_lt (g := gb129) (o := .cells #[.int .i64 a0_0, .int .i64 a0_1] 25 (0, 0)) (by (with_reducible repeat (first | refine blk_drewN ?_ _ | refine blk_drew ?_ | refine blk_alloc ?_ _)); exact BK129.out)) : gb129 ≠ gb132)); have n8_ := Aside0.mk ((by rw [hg]; exact Nat.ne_of_gt (blk_lt (g := gb129) (o := .cells #[.int .i64 a0_0, .int .i64 a0_1] 25 (0, 0)) (by (with_reducible repeat (first | refine blk_drewN ?_ _ | refine blk_drew ?_ | refine blk_alloc ?_ _)); exact BK129.out)) : gb132 ≠ gb129)); have n9_ := Aside0.mk ((by rw [hg]; exact Nat.ne_of_lt (blk_lt (g := gb130) (o := .cells #[.int .i64 a1_0, .int .i64 a1_1] 25 (0, 0)) (by (with_reducible repeat (first | refine blk_drewN ?_ _ | refine blk_drew ?_ | refine blk_alloc ?_ _)); exact BK130.out)) : gb130 ≠ gb132)); have n10_ := Aside0.mk ((by rw [hg]; exact Nat.ne_of_gt (blk_lt (g := gb130) (o := .cells #[.int .i64 a1_0, .int .i64 a1_1] 25 (0, 0)) (by (with_reducible repeat (first | refine blk_drewN ?_ _ | refine blk_drew ?_ | refine blk_alloc ?_ _)); exact BK130.out)) : gb132 ≠ gb130)); have n11_ := Aside0.mk ((by rw [hg]; exact Nat.ne_of_lt (blk_lt (g := gb131) (o := .cells #[.int .i64 a2_0, .int .i64 a2_1] 25 (0, 0)) (by (with_reducible repeat (first | refine blk_drewN ?_ _ | refine blk_drew ?_ | refine blk_alloc ?_ _)); exact BK131.out)) : gb131 ≠ gb132)); have n12_ := Aside0.mk ((by rw [hg]; exact Nat.ne_of_gt (blk_lt (g := gb131) (o := .cells #[.int .i64 a2_0, .int .i64 a2_1] 25 (0, 0)) (by (with_reducible repeat (first | refine blk_drewN ?_ _ | refine blk_drew ?_ | refine blk_alloc ?_ _)); exact BK131.out)) : gb132 ≠ gb131)); clear BK129; clear BK130; clear BK131; clear HB; have BK129 := n0_; have BK130 := n1_; have BK131 := n2_; have HB := n3_; have BK132 := n4_; have GW132 := n5_; have GE132 := n6_; have NB129_132 := n7_; have NB132_129 := n8_; have NB130_132 := n9_; have NB132_130 := n10_; have NB131_132 := n11_; have NB132_131 := n12_; clear n0_ n1_ n2_ n3_ n4_ n5_ n6_ n7_ n8_ n9_ n10_ n11_ n12_; clear hb hbox hg))
 have n0_ := Aside0.mk (blk_drew BK129.out)
 have n1_ := Aside0.mk (blk_drew BK130.out)
 have n2_ := Aside0.mk (blk_drew BK131.out)
 have n3_ := Aside0.mk (blk_drew BK132.out)
 have n4_ := Aside0.mk (below_drew1 HB.out)
 clear BK129
 clear BK130
 clear BK131
 clear BK132
 clear HB
 have BK129 := n0_
 have BK130 := n1_
 have BK131 := n2_
 have BK132 := n3_
 have HB := n4_
 clear n0_ n1_ n2_ n3_ n4_
 refine start_ (n := 10) (S := fun w' => w'.cell? ⟨gb129, 0, none⟩ = some (.int .i64 a0_0) ∧ w'.cell? ⟨gb129, 1, none⟩ = some (.int .i64 a0_1) ∧ w'.cell? ⟨gb130, 0, none⟩ = some (.int .i64 a1_0) ∧ w'.cell? ⟨gb130, 1, none⟩ = some (.int .i64 a1_1) ∧ w'.cell? ⟨gb131, 0, none⟩ = some (.int .i64 a2_0) ∧ w'.cell? ⟨gb131, 1, none⟩ = some (.int .i64 a2_1) ∧ w'.cell? ⟨gb132, 0, none⟩ = some (.int .i64 a3_0) ∧ w'.cell? ⟨gb132, 1, none⟩ = some (.int .i64 a3_1)) (ds := []) #[false, false, false, false, false, false, false, false, false, false] (by kernel_rfl) rfl rfl ⟨(blk_cell BK129.out 0).trans rfl, (blk_cell BK129.out 1).trans rfl, (blk_cell BK130.out 0).trans rfl, (blk_cell BK130.out 1).trans rfl, (blk_cell BK131.out 0).trans rfl, (blk_cell BK131.out 1).trans rfl, (blk_cell BK132.out 0).trans rfl, (blk_cell BK132.out 1).trans rfl⟩ (fun hHeld => ?_); refine with_tabW polygon_Common.tab1 polygon_Common.bits1 (fun HT_ HW_ => ?_)
 generalize w13.drew = w14 at BK129 BK130 BK131 BK132 HB hHeld ⊢
 refine take_ (i := 0) (N := some 13) (v := ?_) (a' := ?_) #[true, false, false, false, false, false, false, false, false, false] rfl rfl (take_ofW HT_.out HW_.out (by kernel_rfl)) (fun _ _ _ h => h) (Or.inl ⟨by rfl, ?_⟩) hHeld ?_ ?_
 rotate_left
 · rintro w' ⟨s0, s1, s2, s3, s4, s5, s6, s7⟩
   go_simp
   with_reducible rfl
 rotate_left
 · simp only [Act.put, List.setIfInBounds_toArray, List.set_cons_zero, List.set_cons_succ, i64_w, i32_w]
   rfl
 refine take_ (i := 1) (N := some 14) (v := ?_) (a' := ?_) #[true, true, false, false, false, false, false, false, false, false] rfl rfl (take_ofW HT_.out HW_.out (by kernel_rfl)) (fun _ _ _ h => h) (Or.inl ⟨by rfl, ?_⟩) hHeld ?_ ?_
 rotate_left
 · rintro w' ⟨s0, s1, s2, s3, s4, s5, s6, s7⟩
   go_simp
   with_reducible rfl
 rotate_left
 · simp only [Act.put, List.setIfInBounds_toArray, List.set_cons_zero, List.set_cons_succ, i64_w, i32_w]
   rfl
 refine take_ (i := 2) (N := some 15) (v := ?_) (a' := ?_) #[true, true, true, false, false, false, false, false, false, false] rfl rfl (take_ofW HT_.out HW_.out (by kernel_rfl)) (fun _ _ _ h => h) (Or.inl ⟨by rfl, ?_⟩) hHeld ?_ ?_
 rotate_left
 · rintro w' ⟨s0, s1, s2, s3, s4, s5, s6, s7⟩
   go_simp
   with_reducible rfl
 rotate_left
 · simp only [Act.put, List.setIfInBounds_toArray, List.set_cons_zero, List.set_cons_succ, i64_w, i32_w]
   rfl
 refine take_ (i := 4) (N := some 17) (v := ?_) (a' := ?_) #[true, true, true, false, true, false, false, false, false, false] rfl rfl (take_ofW HT_.out HW_.out (by kernel_rfl)) (fun _ _ _ h => h) (Or.inl ⟨by rfl, ?_⟩) hHeld ?_ ?_
 rotate_left
 · rintro w' ⟨s0, s1, s2, s3, s4, s5, s6, s7⟩
   go_simp
   with_reducible rfl
 rotate_left
 · simp only [Act.put, List.setIfInBounds_toArray, List.set_cons_zero, List.set_cons_succ, i64_w, i32_w]
   rfl
 refine take_ (i := 5) (N := some 18) (v := ?_) (a' := ?_) #[true, true, true, false, true, true, false, false, false, false] rfl rfl (take_ofW HT_.out HW_.out (by kernel_rfl)) (fun _ _ _ h => h) (Or.inl ⟨by rfl, ?_⟩) hHeld ?_ ?_
 rotate_left
 · rintro w' ⟨s0, s1, s2, s3, s4, s5, s6, s7⟩
   go_simp
   with_reducible rfl
 rotate_left
 · simp only [Act.put, List.setIfInBounds_toArray, List.set_cons_zero, List.set_cons_succ, i64_w, i32_w]
   rfl
 refine take_ (i := 6) (N := some 19) (v := ?_) (a' := ?_) #[true, true, true, false, true, true, true, false, false, false] rfl rfl (take_ofW HT_.out HW_.out (by kernel_rfl)) (fun _ _ _ h => h) (Or.inl ⟨by rfl, ?_⟩) hHeld ?_ ?_
 rotate_left
 · rintro w' ⟨s0, s1, s2, s3, s4, s5, s6, s7⟩
   go_simp
   with_reducible rfl
 rotate_left
 · simp only [Act.put, List.setIfInBounds_toArray, List.set_cons_zero, List.set_cons_succ, i64_w, i32_w]
   rfl
 refine one_ (i := 3) (N := some 16) #[true, true, true, true, true, true, true, false, false, false] rfl rfl (one_of HT_.out (by kernel_rfl)) (by decide) (fun K hK => ?_)
 refine goes_ Try.func25 (by kernel_rfl) rfl #[.agg #[.int .i64 a0_0, .int .i64 a0_1], .agg #[.int .i64 a1_0, .int .i64 a1_1], .agg #[.int .i64 a2_0, .int .i64 a2_1]] (by rfl) rfl rfl (by (try simp only [List.map_toArray, List.map_cons, List.map_nil]); first | done | rfl | (simp only [List.length_drop, List.length_take]; rfl)) ?_
 with_reducible refine (plane_Turn.calls a0_0 a0_1 a1_0 a1_1 a2_0 a2_1 t133 _ A5.out).mono ?_
 rintro e w15 ⟨rfl, hb⟩
 refine ⟨_, rfl, ?_⟩
 have n0_ := Aside0.mk (blk_below (g := gb129) (o := .cells #[.int .i64 a0_0, .int .i64 a0_1] 25 (0, 0)) (by (with_reducible repeat (first | refine blk_drewN ?_ _ | refine blk_drew ?_ | refine blk_alloc ?_ _)); exact BK129.out) hb)
 have n1_ := Aside0.mk (blk_below (g := gb130) (o := .cells #[.int .i64 a1_0, .int .i64 a1_1] 25 (0, 0)) (by (with_reducible repeat (first | refine blk_drewN ?_ _ | refine blk_drew ?_ | refine blk_alloc ?_ _)); exact BK130.out) hb)
 have n2_ := Aside0.mk (blk_below (g := gb131) (o := .cells #[.int .i64 a2_0, .int .i64 a2_1] 25 (0, 0)) (by (with_reducible repeat (first | refine blk_drewN ?_ _ | refine blk_drew ?_ | refine blk_alloc ?_ _)); exact BK131.out) hb)
 have n3_ := Aside0.mk (blk_below (g := gb132) (o := .cells #[.int .i64 a3_0, .int .i64 a3_1] 25 (0, 0)) (by (with_reducible repeat (first | refine blk_drewN ?_ _ | refine blk_drew ?_ | refine blk_alloc ?_ _)); exact BK132.out) hb)
 have n4_ := Aside0.mk (below_step (by repeat (first | (with_reducible first | exact HB.out | apply below_alloc | apply pw_below_drewN | apply below_drew1 | refine below_set ?_ GE129.out | refine below_set ?_ GE130.out | refine below_set ?_ GE131.out | refine below_set ?_ GE132.out) | exact HB.out)) hb)
 clear BK129
 clear BK130
 clear BK131
 clear BK132
 clear HB
 have BK129 := n0_
 have BK130 := n1_
 have BK131 := n2_
 have BK132 := n3_
 have HB := n4_
 clear n0_ n1_ n2_ n3_ n4_
 (try clear hb)
 (try clear hb2)
 (try clear hk)
 (try clear hi)
 refine hK.out _ _ ⟨(blk_cell BK129.out 0).trans rfl, (blk_cell BK129.out 1).trans rfl, (blk_cell BK130.out 0).trans rfl, (blk_cell BK130.out 1).trans rfl, (blk_cell BK131.out 0).trans rfl, (blk_cell BK131.out 1).trans rfl, (blk_cell BK132.out 0).trans rfl, (blk_cell BK132.out 1).trans rfl⟩ (fun hHeld => ?_)
 clear hK K
 refine norm_ (a' := ?_) ?_ ?_
 rotate_left
 · show Act.put _ (some 16) _ = _
   simp only [Act.put, List.setIfInBounds_toArray, List.set_cons_zero, List.set_cons_succ, i64_w, i32_w]
   rfl
 refine one_ (i := 7) (N := some 20) #[true, true, true, true, true, true, true, true, false, false] rfl rfl (one_of HT_.out (by kernel_rfl)) (by decide) (fun K hK => ?_)
 refine goes_ Try.func25 (by kernel_rfl) rfl #[.agg #[.int .i64 a0_0, .int .i64 a0_1], .agg #[.int .i64 a1_0, .int .i64 a1_1], .agg #[.int .i64 a3_0, .int .i64 a3_1]] (by rfl) rfl rfl (by (try simp only [List.map_toArray, List.map_cons, List.map_nil]); first | done | rfl | (simp only [List.length_drop, List.length_take]; rfl)) ?_
 with_reducible refine (plane_Turn.calls a0_0 a0_1 a1_0 a1_1 a3_0 a3_1 t134 _ A6.out).mono ?_
 rintro e w16 ⟨rfl, hb⟩
 refine ⟨_, rfl, ?_⟩
 have n0_ := Aside0.mk (blk_below (g := gb129) (o := .cells #[.int .i64 a0_0, .int .i64 a0_1] 25 (0, 0)) (by (with_reducible repeat (first | refine blk_drewN ?_ _ | refine blk_drew ?_ | refine blk_alloc ?_ _)); exact BK129.out) hb)
 have n1_ := Aside0.mk (blk_below (g := gb130) (o := .cells #[.int .i64 a1_0, .int .i64 a1_1] 25 (0, 0)) (by (with_reducible repeat (first | refine blk_drewN ?_ _ | refine blk_drew ?_ | refine blk_alloc ?_ _)); exact BK130.out) hb)
 have n2_ := Aside0.mk (blk_below (g := gb131) (o := .cells #[.int .i64 a2_0, .int .i64 a2_1] 25 (0, 0)) (by (with_reducible repeat (first | refine blk_drewN ?_ _ | refine blk_drew ?_ | refine blk_alloc ?_ _)); exact BK131.out) hb)
 have n3_ := Aside0.mk (blk_below (g := gb132) (o := .cells #[.int .i64 a3_0, .int .i64 a3_1] 25 (0, 0)) (by (with_reducible repeat (first | refine blk_drewN ?_ _ | refine blk_drew ?_ | refine blk_alloc ?_ _)); exact BK132.out) hb)
 have n4_ := Aside0.mk (below_step (by repeat (first | (with_reducible first | exact HB.out | apply below_alloc | apply pw_below_drewN | apply below_drew1 | refine below_set ?_ GE129.out | refine below_set ?_ GE130.out | refine below_set ?_ GE131.out | refine below_set ?_ GE132.out) | exact HB.out)) hb)
 clear BK129
 clear BK130
 clear BK131
 clear BK132
 clear HB
 have BK129 := n0_
 have BK130 := n1_
 have BK131 := n2_
 have BK132 := n3_
 have HB := n4_
 clear n0_ n1_ n2_ n3_ n4_
 (try clear hb)
 (try clear hb2)
 (try clear hk)
 (try clear hi)
 refine hK.out _ _ ⟨(blk_cell BK129.out 0).trans rfl, (blk_cell BK129.out 1).trans rfl, (blk_cell BK130.out 0).trans rfl, (blk_cell BK130.out 1).trans rfl, (blk_cell BK131.out 0).trans rfl, (blk_cell BK131.out 1).trans rfl, (blk_cell BK132.out 0).trans rfl, (blk_cell BK132.out 1).trans rfl⟩ (fun hHeld => ?_)
 clear hK K
 refine norm_ (a' := ?_) ?_ ?_
 rotate_left
 · show Act.put _ (some 20) _ = _
   simp only [Act.put, List.setIfInBounds_toArray, List.set_cons_zero, List.set_cons_succ, i64_w, i32_w]
   rfl
 refine pure_ (i := 8) (N := some 9) (v := ?_) (a' := ?_) #[true, true, true, true, true, true, true, true, true, false] rfl rfl (any_of HT_.out (by kernel_rfl)) (fun _ _ _ h => h) (Or.inl ⟨by rfl, ?_⟩) ?_ ?_
 rotate_left
 · intro w'
   go_simp
   with_reducible rfl
 rotate_left
 · simp only [Act.put, List.setIfInBounds_toArray, List.set_cons_zero, List.set_cons_succ, i64_w, i32_w]
   rfl
 refine pure_ (i := 9) (N := some 10) (v := ?_) (a' := ?_) #[true, true, true, true, true, true, true, true, true, true] rfl rfl (any_of HT_.out (by kernel_rfl)) (fun _ _ _ h => h) (Or.inl ⟨by rfl, ?_⟩) ?_ ?_
 rotate_left
 · intro w'
   go_simp
   with_reducible rfl
 rotate_left
 · simp only [Act.put, List.setIfInBounds_toArray, List.set_cons_zero, List.set_cons_succ, i64_w, i32_w]
   rfl
 refine done_ (done_of HT_.out (by kernel_rfl)) ?_
 try go_wp2
 have n0_ := Aside0.mk (blk_drew BK129.out)
 have n1_ := Aside0.mk (blk_drew BK130.out)
 have n2_ := Aside0.mk (blk_drew BK131.out)
 have n3_ := Aside0.mk (blk_drew BK132.out)
 have n4_ := Aside0.mk (below_drew1 HB.out)
 clear BK129
 clear BK130
 clear BK131
 clear BK132
 clear HB
 have BK129 := n0_
 have BK130 := n1_
 have BK131 := n2_
 have BK132 := n3_
 have HB := n4_
 clear n0_ n1_ n2_ n3_ n4_
 refine start_ (n := 10) (S := fun w' => w'.cell? ⟨gb131, 0, none⟩ = some (.int .i64 a2_0) ∧ w'.cell? ⟨gb131, 1, none⟩ = some (.int .i64 a2_1) ∧ w'.cell? ⟨gb132, 0, none⟩ = some (.int .i64 a3_0) ∧ w'.cell? ⟨gb132, 1, none⟩ = some (.int .i64 a3_1) ∧ w'.cell? ⟨gb129, 0, none⟩ = some (.int .i64 a0_0) ∧ w'.cell? ⟨gb129, 1, none⟩ = some (.int .i64 a0_1) ∧ w'.cell? ⟨gb130, 0, none⟩ = some (.int .i64 a1_0) ∧ w'.cell? ⟨gb130, 1, none⟩ = some (.int .i64 a1_1)) (ds := []) #[false, false, false, false, false, false, false, false, false, false] (by kernel_rfl) rfl rfl ⟨(blk_cell BK131.out 0).trans rfl, (blk_cell BK131.out 1).trans rfl, (blk_cell BK132.out 0).trans rfl, (blk_cell BK132.out 1).trans rfl, (blk_cell BK129.out 0).trans rfl, (blk_cell BK129.out 1).trans rfl, (blk_cell BK130.out 0).trans rfl, (blk_cell BK130.out 1).trans rfl⟩ (fun hHeld => ?_); refine with_tabW polygon_Common.tab2 polygon_Common.bits2 (fun HT_ HW_ => ?_)
 generalize w16.drew = w17 at BK129 BK130 BK131 BK132 HB hHeld ⊢
 refine take_ (i := 0) (N := some 21) (v := ?_) (a' := ?_) #[true, false, false, false, false, false, false, false, false, false] rfl rfl (take_ofW HT_.out HW_.out (by kernel_rfl)) (fun _ _ _ h => h) (Or.inl ⟨by rfl, ?_⟩) hHeld ?_ ?_
 rotate_left
 · rintro w' ⟨s0, s1, s2, s3, s4, s5, s6, s7⟩
   go_simp
   with_reducible rfl
 rotate_left
 · simp only [Act.put, List.setIfInBounds_toArray, List.set_cons_zero, List.set_cons_succ, i64_w, i32_w]
   rfl
 refine take_ (i := 1) (N := some 22) (v := ?_) (a' := ?_) #[true, true, false, false, false, false, false, false, false, false] rfl rfl (take_ofW HT_.out HW_.out (by kernel_rfl)) (fun _ _ _ h => h) (Or.inl ⟨by rfl, ?_⟩) hHeld ?_ ?_
 rotate_left
 · rintro w' ⟨s0, s1, s2, s3, s4, s5, s6, s7⟩
   go_simp
   with_reducible rfl
 rotate_left
 · simp only [Act.put, List.setIfInBounds_toArray, List.set_cons_zero, List.set_cons_succ, i64_w, i32_w]
   rfl
 refine take_ (i := 2) (N := some 23) (v := ?_) (a' := ?_) #[true, true, true, false, false, false, false, false, false, false] rfl rfl (take_ofW HT_.out HW_.out (by kernel_rfl)) (fun _ _ _ h => h) (Or.inl ⟨by rfl, ?_⟩) hHeld ?_ ?_
 rotate_left
 · rintro w' ⟨s0, s1, s2, s3, s4, s5, s6, s7⟩
   go_simp
   with_reducible rfl
 rotate_left
 · simp only [Act.put, List.setIfInBounds_toArray, List.set_cons_zero, List.set_cons_succ, i64_w, i32_w]
   rfl
 refine take_ (i := 4) (N := some 25) (v := ?_) (a' := ?_) #[true, true, true, false, true, false, false, false, false, false] rfl rfl (take_ofW HT_.out HW_.out (by kernel_rfl)) (fun _ _ _ h => h) (Or.inl ⟨by rfl, ?_⟩) hHeld ?_ ?_
 rotate_left
 · rintro w' ⟨s0, s1, s2, s3, s4, s5, s6, s7⟩
   go_simp
   with_reducible rfl
 rotate_left
 · simp only [Act.put, List.setIfInBounds_toArray, List.set_cons_zero, List.set_cons_succ, i64_w, i32_w]
   rfl
 refine take_ (i := 5) (N := some 26) (v := ?_) (a' := ?_) #[true, true, true, false, true, true, false, false, false, false] rfl rfl (take_ofW HT_.out HW_.out (by kernel_rfl)) (fun _ _ _ h => h) (Or.inl ⟨by rfl, ?_⟩) hHeld ?_ ?_
 rotate_left
 · rintro w' ⟨s0, s1, s2, s3, s4, s5, s6, s7⟩
   go_simp
   with_reducible rfl
 rotate_left
 · simp only [Act.put, List.setIfInBounds_toArray, List.set_cons_zero, List.set_cons_succ, i64_w, i32_w]
   rfl
 refine take_ (i := 6) (N := some 27) (v := ?_) (a' := ?_) #[true, true, true, false, true, true, true, false, false, false] rfl rfl (take_ofW HT_.out HW_.out (by kernel_rfl)) (fun _ _ _ h => h) (Or.inl ⟨by rfl, ?_⟩) hHeld ?_ ?_
 rotate_left
 · rintro w' ⟨s0, s1, s2, s3, s4, s5, s6, s7⟩
   go_simp
   with_reducible rfl
 rotate_left
 · simp only [Act.put, List.setIfInBounds_toArray, List.set_cons_zero, List.set_cons_succ, i64_w, i32_w]
   rfl
 refine one_ (i := 3) (N := some 24) #[true, true, true, true, true, true, true, false, false, false] rfl rfl (one_of HT_.out (by kernel_rfl)) (by decide) (fun K hK => ?_)
 refine goes_ Try.func25 (by kernel_rfl) rfl #[.agg #[.int .i64 a2_0, .int .i64 a2_1], .agg #[.int .i64 a3_0, .int .i64 a3_1], .agg #[.int .i64 a0_0, .int .i64 a0_1]] (by rfl) rfl rfl (by (try simp only [List.map_toArray, List.map_cons, List.map_nil]); first | done | rfl | (simp only [List.length_drop, List.length_take]; rfl)) ?_
 with_reducible refine (plane_Turn.calls a2_0 a2_1 a3_0 a3_1 a0_0 a0_1 t135 _ A7.out).mono ?_
 rintro e w18 ⟨rfl, hb⟩
 refine ⟨_, rfl, ?_⟩
 have n0_ := Aside0.mk (blk_below (g := gb129) (o := .cells #[.int .i64 a0_0, .int .i64 a0_1] 25 (0, 0)) (by (with_reducible repeat (first | refine blk_drewN ?_ _ | refine blk_drew ?_ | refine blk_alloc ?_ _)); exact BK129.out) hb)
 have n1_ := Aside0.mk (blk_below (g := gb130) (o := .cells #[.int .i64 a1_0, .int .i64 a1_1] 25 (0, 0)) (by (with_reducible repeat (first | refine blk_drewN ?_ _ | refine blk_drew ?_ | refine blk_alloc ?_ _)); exact BK130.out) hb)
 have n2_ := Aside0.mk (blk_below (g := gb131) (o := .cells #[.int .i64 a2_0, .int .i64 a2_1] 25 (0, 0)) (by (with_reducible repeat (first | refine blk_drewN ?_ _ | refine blk_drew ?_ | refine blk_alloc ?_ _)); exact BK131.out) hb)
 have n3_ := Aside0.mk (blk_below (g := gb132) (o := .cells #[.int .i64 a3_0, .int .i64 a3_1] 25 (0, 0)) (by (with_reducible repeat (first | refine blk_drewN ?_ _ | refine blk_drew ?_ | refine blk_alloc ?_ _)); exact BK132.out) hb)
 have n4_ := Aside0.mk (below_step (by repeat (first | (with_reducible first | exact HB.out | apply below_alloc | apply pw_below_drewN | apply below_drew1 | refine below_set ?_ GE129.out | refine below_set ?_ GE130.out | refine below_set ?_ GE131.out | refine below_set ?_ GE132.out) | exact HB.out)) hb)
 clear BK129
 clear BK130
 clear BK131
 clear BK132
 clear HB
 have BK129 := n0_
 have BK130 := n1_
 have BK131 := n2_
 have BK132 := n3_
 have HB := n4_
 clear n0_ n1_ n2_ n3_ n4_
 (try clear hb)
 (try clear hb2)
 (try clear hk)
 (try clear hi)
 refine hK.out _ _ ⟨(blk_cell BK131.out 0).trans rfl, (blk_cell BK131.out 1).trans rfl, (blk_cell BK132.out 0).trans rfl, (blk_cell BK132.out 1).trans rfl, (blk_cell BK129.out 0).trans rfl, (blk_cell BK129.out 1).trans rfl, (blk_cell BK130.out 0).trans rfl, (blk_cell BK130.out 1).trans rfl⟩ (fun hHeld => ?_)
 clear hK K
 refine norm_ (a' := ?_) ?_ ?_
 rotate_left
 · show Act.put _ (some 24) _ = _
   simp only [Act.put, List.setIfInBounds_toArray, List.set_cons_zero, List.set_cons_succ, i64_w, i32_w]
   rfl
 refine one_ (i := 7) (N := some 28) #[true, true, true, true, true, true, true, true, false, false] rfl rfl (one_of HT_.out (by kernel_rfl)) (by decide) (fun K hK => ?_)
 refine goes_ Try.func25 (by kernel_rfl) rfl #[.agg #[.int .i64 a2_0, .int .i64 a2_1], .agg #[.int .i64 a3_0, .int .i64 a3_1], .agg #[.int .i64 a1_0, .int .i64 a1_1]] (by rfl) rfl rfl (by (try simp only [List.map_toArray, List.map_cons, List.map_nil]); first | done | rfl | (simp only [List.length_drop, List.length_take]; rfl)) ?_
 with_reducible refine (plane_Turn.calls a2_0 a2_1 a3_0 a3_1 a1_0 a1_1 t136 _ A8.out).mono ?_
 rintro e w19 ⟨rfl, hb⟩
 refine ⟨_, rfl, ?_⟩
 have n0_ := Aside0.mk (blk_below (g := gb129) (o := .cells #[.int .i64 a0_0, .int .i64 a0_1] 25 (0, 0)) (by (with_reducible repeat (first | refine blk_drewN ?_ _ | refine blk_drew ?_ | refine blk_alloc ?_ _)); exact BK129.out) hb)
 have n1_ := Aside0.mk (blk_below (g := gb130) (o := .cells #[.int .i64 a1_0, .int .i64 a1_1] 25 (0, 0)) (by (with_reducible repeat (first | refine blk_drewN ?_ _ | refine blk_drew ?_ | refine blk_alloc ?_ _)); exact BK130.out) hb)
 have n2_ := Aside0.mk (blk_below (g := gb131) (o := .cells #[.int .i64 a2_0, .int .i64 a2_1] 25 (0, 0)) (by (with_reducible repeat (first | refine blk_drewN ?_ _ | refine blk_drew ?_ | refine blk_alloc ?_ _)); exact BK131.out) hb)
 have n3_ := Aside0.mk (blk_below (g := gb132) (o := .cells #[.int .i64 a3_0, .int .i64 a3_1] 25 (0, 0)) (by (with_reducible repeat (first | refine blk_drewN ?_ _ | refine blk_drew ?_ | refine blk_alloc ?_ _)); exact BK132.out) hb)
 have n4_ := Aside0.mk (below_step (by repeat (first | (with_reducible first | exact HB.out | apply below_alloc | apply pw_below_drewN | apply below_drew1 | refine below_set ?_ GE129.out | refine below_set ?_ GE130.out | refine below_set ?_ GE131.out | refine below_set ?_ GE132.out) | exact HB.out)) hb)
 clear BK129
 clear BK130
 clear BK131
 clear BK132
 clear HB
 have BK129 := n0_
 have BK130 := n1_
 have BK131 := n2_
 have BK132 := n3_
 have HB := n4_
 clear n0_ n1_ n2_ n3_ n4_
 (try clear hb)
 (try clear hb2)
 (try clear hk)
 (try clear hi)
 refine hK.out _ _ ⟨(blk_cell BK131.out 0).trans rfl, (blk_cell BK131.out 1).trans rfl, (blk_cell BK132.out 0).trans rfl, (blk_cell BK132.out 1).trans rfl, (blk_cell BK129.out 0).trans rfl, (blk_cell BK129.out 1).trans rfl, (blk_cell BK130.out 0).trans rfl, (blk_cell BK130.out 1).trans rfl⟩ (fun hHeld => ?_)
 clear hK K
 refine norm_ (a' := ?_) ?_ ?_
 rotate_left
 · show Act.put _ (some 28) _ = _
   simp only [Act.put, List.setIfInBounds_toArray, List.set_cons_zero, List.set_cons_succ, i64_w, i32_w]
   rfl
 refine pure_ (i := 8) (N := some 11) (v := ?_) (a' := ?_) #[true, true, true, true, true, true, true, true, true, false] rfl rfl (any_of HT_.out (by kernel_rfl)) (fun _ _ _ h => h) (Or.inl ⟨by rfl, ?_⟩) ?_ ?_
 rotate_left
 · intro w'
   go_simp
   with_reducible rfl
 rotate_left
 · simp only [Act.put, List.setIfInBounds_toArray, List.set_cons_zero, List.set_cons_succ, i64_w, i32_w]
   rfl
 refine pure_ (i := 9) (N := some 12) (v := ?_) (a' := ?_) #[true, true, true, true, true, true, true, true, true, true] rfl rfl (any_of HT_.out (by kernel_rfl)) (fun _ _ _ h => h) (Or.inl ⟨by rfl, ?_⟩) ?_ ?_
 rotate_left
 · intro w'
   go_simp
   with_reducible rfl
 rotate_left
 · simp only [Act.put, List.setIfInBounds_toArray, List.set_cons_zero, List.set_cons_succ, i64_w, i32_w]
   rfl
 refine done_ (done_of HT_.out (by kernel_rfl)) ?_
 go_upto_region 3 with (fail)
 go_cut [38] (fun v38 wc => ∃ (kq : Nat) (x38_8 : Bool), v38 = .bool x38_8 ∧ Aside0 (polygon_Common.j0 kq t133 t134 t135 t136 x38_8 a0_0 a0_1 a1_0 a1_1 a2_0 a2_1 a3_0 a3_1 = some r) ∧ Aside0 (kq ≤ k) ∧ Aside0 (wc.heap[gb129]? = some (.cells #[.int .i64 a0_0, .int .i64 a0_1] 25 (0, 0))) ∧ Aside0 (wc.heap[gb130]? = some (.cells #[.int .i64 a1_0, .int .i64 a1_1] 25 (0, 0))) ∧ Aside0 (wc.heap[gb131]? = some (.cells #[.int .i64 a2_0, .int .i64 a2_1] 25 (0, 0))) ∧ Aside0 (wc.heap[gb132]? = some (.cells #[.int .i64 a3_0, .int .i64 a3_1] 25 (0, 0))) ∧ Aside0 (Below w.heap.size w wc))
 case first =>
  have H := HC9.out
  clear HC9
  refine Or.elim (Classical.em ((wrap64 (t133 * t134)) < 0)) (fun c20 => ?p2_) (fun c20 => ?n2_)
  case' p2_ =>
   rw [if_pos c20] at H
   have c20b0 : decide ((wrap64 (t133 * t134)) < 0) = true := decide_eq_true c20
   clear c20
   (first | rw [c20b0] | (simp only [i64_w, i32_w]; rw [c20b0]) | skip)
  case' n2_ =>
   rw [if_neg c20] at H
   have c20b0 : decide ((wrap64 (t133 * t134)) < 0) = false := decide_eq_false c20
   clear c20
   (first | rw [c20b0] | (simp only [i64_w, i32_w]; rw [c20b0]) | skip)
  all_goals
   have H' := Aside0.mk H
   clear H
   go_wp2
   go_meet
   case rel => first | (exact ⟨_, (decide ((wrap64 (t135 * t136)) < 0)), (by first | rfl | (simp; done) | (simp [*]; done)), H', ⟨by first | omega | exact Nat.le_refl _⟩, ⟨by (with_reducible repeat (first | refine blk_drewN ?_ _ | refine blk_drew ?_ | refine blk_alloc ?_ _)); exact BK129.out⟩, ⟨by (with_reducible repeat (first | refine blk_drewN ?_ _ | refine blk_drew ?_ | refine blk_alloc ?_ _)); exact BK130.out⟩, ⟨by (with_reducible repeat (first | refine blk_drewN ?_ _ | refine blk_drew ?_ | refine blk_alloc ?_ _)); exact BK131.out⟩, ⟨by (with_reducible repeat (first | refine blk_drewN ?_ _ | refine blk_drew ?_ | refine blk_alloc ?_ _)); exact BK132.out⟩, ⟨by repeat (first | (with_reducible first | exact HB.out | apply below_alloc | apply pw_below_drewN | apply below_drew1 | refine below_set ?_ GE129.out | refine below_set ?_ GE130.out | refine below_set ?_ GE131.out | refine below_set ?_ GE132.out) | exact HB.out)⟩⟩) | (exact ⟨_, (false), (by first | rfl | (simp; done) | (simp [*]; done)), H', ⟨by first | omega | exact Nat.le_refl _⟩, ⟨by (with_reducible repeat (first | refine blk_drewN ?_ _ | refine blk_drew ?_ | refine blk_alloc ?_ _)); exact BK129.out⟩, ⟨by (with_reducible repeat (first | refine blk_drewN ?_ _ | refine blk_drew ?_ | refine blk_alloc ?_ _)); exact BK130.out⟩, ⟨by (with_reducible repeat (first | refine blk_drewN ?_ _ | refine blk_drew ?_ | refine blk_alloc ?_ _)); exact BK131.out⟩, ⟨by (with_reducible repeat (first | refine blk_drewN ?_ _ | refine blk_drew ?_ | refine blk_alloc ?_ _)); exact BK132.out⟩, ⟨by repeat (first | (with_reducible first | exact HB.out | apply below_alloc | apply pw_below_drewN | apply below_drew1 | refine below_set ?_ GE129.out | refine below_set ?_ GE130.out | refine below_set ?_ GE131.out | refine below_set ?_ GE132.out) | exact HB.out)⟩⟩)
 case rest =>
  clear HC9
  (try clear c2); (try clear p2); (try clear c5); (try clear p6); (try clear c20); (try clear c20b0)
  obtain ⟨kq, x38_8, rfl, HA, HJ8, BK129, BK130, BK131, BK132, HB⟩ := hcut
  cases kq with
  | zero => exact absurd HA.out (by simp [polygon_Common.j0])
  | succ kj8 =>
   have H := HA.out
   clear HA
   simp only [polygon_Common.j0] at H
   refine Or.elim (Classical.em (x38_8 = true)) (fun c21 => ?p4_) (fun c21 => ?n4_)
   case' p4_ =>
    subst c21
    have H1 : (some true) = some r := by rw [if_pos rfl] at H; exact H
    clear H
    have H := H1
    clear H1
    have hm3_0 := Aside0.mk trivial
   case' n4_ =>
    replace c21 := Bool.eq_false_iff.mpr c21
    subst c21
    have H1 : (if t133 = 0 then ((polygon_on.f a0_0 a0_1 a1_0 a1_1 a2_0 a2_1).bind fun t137 => (if t137 = true then (some true) else (if t134 = 0 then ((polygon_on.f a0_0 a0_1 a1_0 a1_1 a3_0 a3_1).bind fun t138 => (if t138 = true then (some true) else (if t135 = 0 then ((polygon_on.f a2_0 a2_1 a3_0 a3_1 a0_0 a0_1).bind fun t139 => (if t139 = true then (some true) else (if t136 = 0 then ((polygon_on.f a2_0 a2_1 a3_0 a3_1 a1_0 a1_1).bind fun t140 => (some t140)) else (some false)))) else (if t136 = 0 then ((polygon_on.f a2_0 a2_1 a3_0 a3_1 a1_0 a1_1).bind fun t141 => (some t141)) else (some false))))) else (if t135 = 0 then ((polygon_on.f a2_0 a2_1 a3_0 a3_1 a0_0 a0_1).bind fun t142 => (if t142 = true then (some true) else (if t136 = 0 then ((polygon_on.f a2_0 a2_1 a3_0 a3_1 a1_0 a1_1).bind fun t143 => (some t143)) else (some false)))) else (if t136 = 0 then ((polygon_on.f a2_0 a2_1 a3_0 a3_1 a1_0 a1_1).bind fun t144 => (some t144)) else (some false)))))) else (if t134 = 0 then ((polygon_on.f a0_0 a0_1 a1_0 a1_1 a3_0 a3_1).bind fun t145 => (if t145 = true then (some true) else (if t135 = 0 then ((polygon_on.f a2_0 a2_1 a3_0 a3_1 a0_0 a0_1).bind fun t146 => (if t146 = true then (some true) else (if t136 = 0 then ((polygon_on.f a2_0 a2_1 a3_0 a3_1 a1_0 a1_1).bind fun t147 => (some t147)) else (some false)))) else (if t136 = 0 then ((polygon_on.f a2_0 a2_1 a3_0 a3_1 a1_0 a1_1).bind fun t148 => (some t148)) else (some false))))) else (if t135 = 0 then ((polygon_on.f a2_0 a2_1 a3_0 a3_1 a0_0 a0_1).bind fun t149 => (if t149 = true then (some true) else (if t136 = 0 then ((polygon_on.f a2_0 a2_1 a3_0 a3_1 a1_0 a1_1).bind fun t150 => (some t150)) else (some false)))) else (if t136 = 0 then ((polygon_on.f a2_0 a2_1 a3_0 a3_1 a1_0 a1_1).bind fun t151 => (some t151)) else (some false))))) = some r := by rw [if_neg (show ¬ (false = true) by decide)] at H; exact H
    clear H
    have H := H1
    clear H1
    refine Or.elim (Classical.em (t133 = 0)) (fun c22 => ?p5_) (fun c22 => ?n5_)
    case' p5_ =>
     rw [if_pos c22] at H
     have c22b0 : (t133 == 0) = true := beq_iff_eq.mpr c22
     have c22b1 : (t133 != 0) = false := bne_eq_false_iff_eq.mpr c22
     clear c22
     replace H := Option.bind_eq_some_iff.mp H
     obtain ⟨t137, A230, H⟩ := H
     replace H : (if t137 = true then (some true) else (if t134 = 0 then ((polygon_on.f a0_0 a0_1 a1_0 a1_1 a3_0 a3_1).bind fun t138 => (if t138 = true then (some true) else (if t135 = 0 then ((polygon_on.f a2_0 a2_1 a3_0 a3_1 a0_0 a0_1).bind fun t139 => (if t139 = true then (some true) else (if t136 = 0 then ((polygon_on.f a2_0 a2_1 a3_0 a3_1 a1_0 a1_1).bind fun t140 => (some t140)) else (some false)))) else (if t136 = 0 then ((polygon_on.f a2_0 a2_1 a3_0 a3_1 a1_0 a1_1).bind fun t141 => (some t141)) else (some false))))) else (if t135 = 0 then ((polygon_on.f a2_0 a2_1 a3_0 a3_1 a0_0 a0_1).bind fun t142 => (if t142 = true then (some true) else (if t136 = 0 then ((polygon_on.f a2_0 a2_1 a3_0 a3_1 a1_0 a1_1).bind fun t143 => (some t143)) else (some false)))) else (if t136 = 0 then ((polygon_on.f a2_0 a2_1 a3_0 a3_1 a1_0 a1_1).bind fun t144 => (some t144)) else (some false))))) = some r := H
     have A23 := Aside0.mk A230
     clear A230
     refine Or.elim (Classical.em (t137 = true)) (fun c24 => ?p6_) (fun c24 => ?n6_)
     case' p6_ =>
      subst c24
      have H1 : (some true) = some r := by rw [if_pos rfl] at H; exact H
      clear H
      have H := H1
      clear H1
      have hm3_1 := Aside0.mk trivial
     case' n6_ =>
      replace c24 := Bool.eq_false_iff.mpr c24
      subst c24
      have H1 : (if t134 = 0 then ((polygon_on.f a0_0 a0_1 a1_0 a1_1 a3_0 a3_1).bind fun t138 => (if t138 = true then (some true) else (if t135 = 0 then ((polygon_on.f a2_0 a2_1 a3_0 a3_1 a0_0 a0_1).bind fun t139 => (if t139 = true then (some true) else (if t136 = 0 then ((polygon_on.f a2_0 a2_1 a3_0 a3_1 a1_0 a1_1).bind fun t140 => (some t140)) else (some false)))) else (if t136 = 0 then ((polygon_on.f a2_0 a2_1 a3_0 a3_1 a1_0 a1_1).bind fun t141 => (some t141)) else (some false))))) else (if t135 = 0 then ((polygon_on.f a2_0 a2_1 a3_0 a3_1 a0_0 a0_1).bind fun t142 => (if t142 = true then (some true) else (if t136 = 0 then ((polygon_on.f a2_0 a2_1 a3_0 a3_1 a1_0 a1_1).bind fun t143 => (some t143)) else (some false)))) else (if t136 = 0 then ((polygon_on.f a2_0 a2_1 a3_0 a3_1 a1_0 a1_1).bind fun t144 => (some t144)) else (some false)))) = some r := by rw [if_neg (show ¬ (false = true) by decide)] at H; exact H
      clear H
      have H := H1
      clear H1
      refine Or.elim (Classical.em (t134 = 0)) (fun c35 => ?p7_) (fun c35 => ?n7_)
      case' p7_ =>
       rw [if_pos c35] at H
       have c35b0 : (t134 == 0) = true := beq_iff_eq.mpr c35
       have c35b1 : (t134 != 0) = false := bne_eq_false_iff_eq.mpr c35
       clear c35
       replace H := Option.bind_eq_some_iff.mp H
       obtain ⟨t138, A360, H⟩ := H
       replace H : (if t138 = true then (some true) else (if t135 = 0 then ((polygon_on.f a2_0 a2_1 a3_0 a3_1 a0_0 a0_1).bind fun t139 => (if t139 = true then (some true) else (if t136 = 0 then ((polygon_on.f a2_0 a2_1 a3_0 a3_1 a1_0 a1_1).bind fun t140 => (some t140)) else (some false)))) else (if t136 = 0 then ((polygon_on.f a2_0 a2_1 a3_0 a3_1 a1_0 a1_1).bind fun t141 => (some t141)) else (some false)))) = some r := H
       have A36 := Aside0.mk A360
       clear A360
       refine Or.elim (Classical.em (t138 = true)) (fun c37 => ?p8_) (fun c37 => ?n8_)
       case' p8_ =>
        subst c37
        have H1 : (some true) = some r := by rw [if_pos rfl] at H; exact H
        clear H
        have H := H1
        clear H1
        have hm3_1 := Aside0.mk trivial
       case' n8_ =>
        replace c37 := Bool.eq_false_iff.mpr c37
        subst c37
        have H1 : (if t135 = 0 then ((polygon_on.f a2_0 a2_1 a3_0 a3_1 a0_0 a0_1).bind fun t139 => (if t139 = true then (some true) else (if t136 = 0 then ((polygon_on.f a2_0 a2_1 a3_0 a3_1 a1_0 a1_1).bind fun t140 => (some t140)) else (some false)))) else (if t136 = 0 then ((polygon_on.f a2_0 a2_1 a3_0 a3_1 a1_0 a1_1).bind fun t141 => (some t141)) else (some false))) = some r := by rw [if_neg (show ¬ (false = true) by decide)] at H; exact H
        clear H
        have H := H1
        clear H1
        refine Or.elim (Classical.em (t135 = 0)) (fun c52 => ?p9_) (fun c52 => ?n9_)
        case' p9_ =>
         rw [if_pos c52] at H
         have c52b0 : (t135 == 0) = true := beq_iff_eq.mpr c52
         have c52b1 : (t135 != 0) = false := bne_eq_false_iff_eq.mpr c52
         clear c52
         replace H := Option.bind_eq_some_iff.mp H
         obtain ⟨t139, A530, H⟩ := H
         replace H : (if t139 = true then (some true) else (if t136 = 0 then ((polygon_on.f a2_0 a2_1 a3_0 a3_1 a1_0 a1_1).bind fun t140 => (some t140)) else (some false))) = some r := H
         have A53 := Aside0.mk A530
         clear A530
         refine Or.elim (Classical.em (t139 = true)) (fun c54 => ?p10_) (fun c54 => ?n10_)
         case' p10_ =>
          subst c54
          have H1 : (some true) = some r := by rw [if_pos rfl] at H; exact H
          clear H
          have H := H1
          clear H1
          have hm3_1 := Aside0.mk trivial
         case' n10_ =>
          replace c54 := Bool.eq_false_iff.mpr c54
          subst c54
          have H1 : (if t136 = 0 then ((polygon_on.f a2_0 a2_1 a3_0 a3_1 a1_0 a1_1).bind fun t140 => (some t140)) else (some false)) = some r := by rw [if_neg (show ¬ (false = true) by decide)] at H; exact H
          clear H
          have H := H1
          clear H1
          refine Or.elim (Classical.em (t136 = 0)) (fun c73 => ?p11_) (fun c73 => ?n11_)
          case' p11_ =>
           rw [if_pos c73] at H
           have c73b0 : (t136 == 0) = true := beq_iff_eq.mpr c73
           have c73b1 : (t136 != 0) = false := bne_eq_false_iff_eq.mpr c73
           clear c73
           replace H := Option.bind_eq_some_iff.mp H
           obtain ⟨t140, A740, H⟩ := H
           replace H : (some t140) = some r := H
           have A74 := Aside0.mk A740
           clear A740
           have hm3_1 := Aside0.mk trivial
          case' n11_ =>
           rw [if_neg c73] at H
           have c73b0 : (t136 == 0) = false := beq_eq_false_iff_ne.mpr c73
           have c73b1 : (t136 != 0) = true := bne_iff_ne.mpr c73
           have hm3_1 := Aside0.mk trivial
        case' n9_ =>
         rw [if_neg c52] at H
         have c52b0 : (t135 == 0) = false := beq_eq_false_iff_ne.mpr c52
         have c52b1 : (t135 != 0) = true := bne_iff_ne.mpr c52
         refine Or.elim (Classical.em (t136 = 0)) (fun c115 => ?p12_) (fun c115 => ?n12_)
         case' p12_ =>
          rw [if_pos c115] at H
          have c115b0 : (t136 == 0) = true := beq_iff_eq.mpr c115
          have c115b1 : (t136 != 0) = false := bne_eq_false_iff_eq.mpr c115
          clear c115
          replace H := Option.bind_eq_some_iff.mp H
          obtain ⟨t141, A1160, H⟩ := H
          replace H : (some t141) = some r := H
          have A116 := Aside0.mk A1160
          clear A1160
          have hm3_1 := Aside0.mk trivial
         case' n12_ =>
          rw [if_neg c115] at H
          have c115b0 : (t136 == 0) = false := beq_eq_false_iff_ne.mpr c115
          have c115b1 : (t136 != 0) = true := bne_iff_ne.mpr c115
          have hm3_1 := Aside0.mk trivial
      case' n7_ =>
       rw [if_neg c35] at H
       have c35b0 : (t134 == 0) = false := beq_eq_false_iff_ne.mpr c35
       have c35b1 : (t134 != 0) = true := bne_iff_ne.mpr c35
       refine Or.elim (Classical.em (t135 = 0)) (fun c149 => ?p13_) (fun c149 => ?n13_)
       case' p13_ =>
        rw [if_pos c149] at H
        have c149b0 : (t135 == 0) = true := beq_iff_eq.mpr c149
        have c149b1 : (t135 != 0) = false := bne_eq_false_iff_eq.mpr c149
        clear c149
        replace H := Option.bind_eq_some_iff.mp H
        obtain ⟨t142, A1500, H⟩ := H
        replace H : (if t142 = true then (some true) else (if t136 = 0 then ((polygon_on.f a2_0 a2_1 a3_0 a3_1 a1_0 a1_1).bind fun t143 => (some t143)) else (some false))) = some r := H
        have A150 := Aside0.mk A1500
        clear A1500
        refine Or.elim (Classical.em (t142 = true)) (fun c151 => ?p14_) (fun c151 => ?n14_)
        case' p14_ =>
         subst c151
         have H1 : (some true) = some r := by rw [if_pos rfl] at H; exact H
         clear H
         have H := H1
         clear H1
         have hm3_1 := Aside0.mk trivial
        case' n14_ =>
         replace c151 := Bool.eq_false_iff.mpr c151
         subst c151
         have H1 : (if t136 = 0 then ((polygon_on.f a2_0 a2_1 a3_0 a3_1 a1_0 a1_1).bind fun t143 => (some t143)) else (some false)) = some r := by rw [if_neg (show ¬ (false = true) by decide)] at H; exact H
         clear H
         have H := H1
         clear H1
         refine Or.elim (Classical.em (t136 = 0)) (fun c166 => ?p15_) (fun c166 => ?n15_)
         case' p15_ =>
          rw [if_pos c166] at H
          have c166b0 : (t136 == 0) = true := beq_iff_eq.mpr c166
          have c166b1 : (t136 != 0) = false := bne_eq_false_iff_eq.mpr c166
          clear c166
          replace H := Option.bind_eq_some_iff.mp H
          obtain ⟨t143, A1670, H⟩ := H
          replace H : (some t143) = some r := H
          have A167 := Aside0.mk A1670
          clear A1670
          have hm3_1 := Aside0.mk trivial
         case' n15_ =>
          rw [if_neg c166] at H
          have c166b0 : (t136 == 0) = false := beq_eq_false_iff_ne.mpr c166
          have c166b1 : (t136 != 0) = true := bne_iff_ne.mpr c166
          have hm3_1 := Aside0.mk trivial
       case' n13_ =>
        rw [if_neg c149] at H
        have c149b0 : (t135 == 0) = false := beq_eq_false_iff_ne.mpr c149
        have c149b1 : (t135 != 0) = true := bne_iff_ne.mpr c149
        refine Or.elim (Classical.em (t136 = 0)) (fun c200 => ?p16_) (fun c200 => ?n16_)
        case' p16_ =>
         rw [if_pos c200] at H
         have c200b0 : (t136 == 0) = true := beq_iff_eq.mpr c200
         have c200b1 : (t136 != 0) = false := bne_eq_false_iff_eq.mpr c200
         clear c200
         replace H := Option.bind_eq_some_iff.mp H
         obtain ⟨t144, A2010, H⟩ := H
         replace H : (some t144) = some r := H
         have A201 := Aside0.mk A2010
         clear A2010
         have hm3_1 := Aside0.mk trivial
        case' n16_ =>
         rw [if_neg c200] at H
         have c200b0 : (t136 == 0) = false := beq_eq_false_iff_ne.mpr c200
         have c200b1 : (t136 != 0) = true := bne_iff_ne.mpr c200
         have hm3_1 := Aside0.mk trivial
    case' n5_ =>
     rw [if_neg c22] at H
     have c22b0 : (t133 == 0) = false := beq_eq_false_iff_ne.mpr c22
     have c22b1 : (t133 != 0) = true := bne_iff_ne.mpr c22
     refine Or.elim (Classical.em (t134 = 0)) (fun c226 => ?p17_) (fun c226 => ?n17_)
     case' p17_ =>
      rw [if_pos c226] at H
      have c226b0 : (t134 == 0) = true := beq_iff_eq.mpr c226
      have c226b1 : (t134 != 0) = false := bne_eq_false_iff_eq.mpr c226
      clear c226
      replace H := Option.bind_eq_some_iff.mp H
      obtain ⟨t145, A2270, H⟩ := H
      replace H : (if t145 = true then (some true) else (if t135 = 0 then ((polygon_on.f a2_0 a2_1 a3_0 a3_1 a0_0 a0_1).bind fun t146 => (if t146 = true then (some true) else (if t136 = 0 then ((polygon_on.f a2_0 a2_1 a3_0 a3_1 a1_0 a1_1).bind fun t147 => (some t147)) else (some false)))) else (if t136 = 0 then ((polygon_on.f a2_0 a2_1 a3_0 a3_1 a1_0 a1_1).bind fun t148 => (some t148)) else (some false)))) = some r := H
      have A227 := Aside0.mk A2270
      clear A2270
      refine Or.elim (Classical.em (t145 = true)) (fun c228 => ?p18_) (fun c228 => ?n18_)
      case' p18_ =>
       subst c228
       have H1 : (some true) = some r := by rw [if_pos rfl] at H; exact H
       clear H
       have H := H1
       clear H1
       have hm3_2 := Aside0.mk trivial
      case' n18_ =>
       replace c228 := Bool.eq_false_iff.mpr c228
       subst c228
       have H1 : (if t135 = 0 then ((polygon_on.f a2_0 a2_1 a3_0 a3_1 a0_0 a0_1).bind fun t146 => (if t146 = true then (some true) else (if t136 = 0 then ((polygon_on.f a2_0 a2_1 a3_0 a3_1 a1_0 a1_1).bind fun t147 => (some t147)) else (some false)))) else (if t136 = 0 then ((polygon_on.f a2_0 a2_1 a3_0 a3_1 a1_0 a1_1).bind fun t148 => (some t148)) else (some false))) = some r := by rw [if_neg (show ¬ (false = true) by decide)] at H; exact H
       clear H
       have H := H1
       clear H1
       refine Or.elim (Classical.em (t135 = 0)) (fun c239 => ?p19_) (fun c239 => ?n19_)
       case' p19_ =>
        rw [if_pos c239] at H
        have c239b0 : (t135 == 0) = true := beq_iff_eq.mpr c239
        have c239b1 : (t135 != 0) = false := bne_eq_false_iff_eq.mpr c239
        clear c239
        replace H := Option.bind_eq_some_iff.mp H
        obtain ⟨t146, A2400, H⟩ := H
        replace H : (if t146 = true then (some true) else (if t136 = 0 then ((polygon_on.f a2_0 a2_1 a3_0 a3_1 a1_0 a1_1).bind fun t147 => (some t147)) else (some false))) = some r := H
        have A240 := Aside0.mk A2400
        clear A2400
        refine Or.elim (Classical.em (t146 = true)) (fun c241 => ?p20_) (fun c241 => ?n20_)
        case' p20_ =>
         subst c241
         have H1 : (some true) = some r := by rw [if_pos rfl] at H; exact H
         clear H
         have H := H1
         clear H1
         have hm3_2 := Aside0.mk trivial
        case' n20_ =>
         replace c241 := Bool.eq_false_iff.mpr c241
         subst c241
         have H1 : (if t136 = 0 then ((polygon_on.f a2_0 a2_1 a3_0 a3_1 a1_0 a1_1).bind fun t147 => (some t147)) else (some false)) = some r := by rw [if_neg (show ¬ (false = true) by decide)] at H; exact H
         clear H
         have H := H1
         clear H1
         refine Or.elim (Classical.em (t136 = 0)) (fun c256 => ?p21_) (fun c256 => ?n21_)
         case' p21_ =>
          rw [if_pos c256] at H
          have c256b0 : (t136 == 0) = true := beq_iff_eq.mpr c256
          have c256b1 : (t136 != 0) = false := bne_eq_false_iff_eq.mpr c256
          clear c256
          replace H := Option.bind_eq_some_iff.mp H
          obtain ⟨t147, A2570, H⟩ := H
          replace H : (some t147) = some r := H
          have A257 := Aside0.mk A2570
          clear A2570
          have hm3_2 := Aside0.mk trivial
         case' n21_ =>
          rw [if_neg c256] at H
          have c256b0 : (t136 == 0) = false := beq_eq_false_iff_ne.mpr c256
          have c256b1 : (t136 != 0) = true := bne_iff_ne.mpr c256
          have hm3_2 := Aside0.mk trivial
       case' n19_ =>
        rw [if_neg c239] at H
        have c239b0 : (t135 == 0) = false := beq_eq_false_iff_ne.mpr c239
        have c239b1 : (t135 != 0) = true := bne_iff_ne.mpr c239
        refine Or.elim (Classical.em (t136 = 0)) (fun c290 => ?p22_) (fun c290 => ?n22_)
        case' p22_ =>
         rw [if_pos c290] at H
         have c290b0 : (t136 == 0) = true := beq_iff_eq.mpr c290
         have c290b1 : (t136 != 0) = false := bne_eq_false_iff_eq.mpr c290
         clear c290
         replace H := Option.bind_eq_some_iff.mp H
         obtain ⟨t148, A2910, H⟩ := H
         replace H : (some t148) = some r := H
         have A291 := Aside0.mk A2910
         clear A2910
         have hm3_2 := Aside0.mk trivial
        case' n22_ =>
         rw [if_neg c290] at H
         have c290b0 : (t136 == 0) = false := beq_eq_false_iff_ne.mpr c290
         have c290b1 : (t136 != 0) = true := bne_iff_ne.mpr c290
         have hm3_2 := Aside0.mk trivial
     case' n17_ =>
      rw [if_neg c226] at H
      have c226b0 : (t134 == 0) = false := beq_eq_false_iff_ne.mpr c226
      have c226b1 : (t134 != 0) = true := bne_iff_ne.mpr c226
      refine Or.elim (Classical.em (t135 = 0)) (fun c316 => ?p23_) (fun c316 => ?n23_)
      case' p23_ =>
       rw [if_pos c316] at H
       have c316b0 : (t135 == 0) = true := beq_iff_eq.mpr c316
       have c316b1 : (t135 != 0) = false := bne_eq_false_iff_eq.mpr c316
       clear c316
       replace H := Option.bind_eq_some_iff.mp H
       obtain ⟨t149, A3170, H⟩ := H
       replace H : (if t149 = true then (some true) else (if t136 = 0 then ((polygon_on.f a2_0 a2_1 a3_0 a3_1 a1_0 a1_1).bind fun t150 => (some t150)) else (some false))) = some r := H
       have A317 := Aside0.mk A3170
       clear A3170
       refine Or.elim (Classical.em (t149 = true)) (fun c318 => ?p24_) (fun c318 => ?n24_)
       case' p24_ =>
        subst c318
        have H1 : (some true) = some r := by rw [if_pos rfl] at H; exact H
        clear H
        have H := H1
        clear H1
        have hm3_3 := Aside0.mk trivial
       case' n24_ =>
        replace c318 := Bool.eq_false_iff.mpr c318
        subst c318
        have H1 : (if t136 = 0 then ((polygon_on.f a2_0 a2_1 a3_0 a3_1 a1_0 a1_1).bind fun t150 => (some t150)) else (some false)) = some r := by rw [if_neg (show ¬ (false = true) by decide)] at H; exact H
        clear H
        have H := H1
        clear H1
        refine Or.elim (Classical.em (t136 = 0)) (fun c329 => ?p25_) (fun c329 => ?n25_)
        case' p25_ =>
         rw [if_pos c329] at H
         have c329b0 : (t136 == 0) = true := beq_iff_eq.mpr c329
         have c329b1 : (t136 != 0) = false := bne_eq_false_iff_eq.mpr c329
         clear c329
         replace H := Option.bind_eq_some_iff.mp H
         obtain ⟨t150, A3300, H⟩ := H
         replace H : (some t150) = some r := H
         have A330 := Aside0.mk A3300
         clear A3300
         have hm3_3 := Aside0.mk trivial
        case' n25_ =>
         rw [if_neg c329] at H
         have c329b0 : (t136 == 0) = false := beq_eq_false_iff_ne.mpr c329
         have c329b1 : (t136 != 0) = true := bne_iff_ne.mpr c329
         have hm3_3 := Aside0.mk trivial
      case' n23_ =>
       rw [if_neg c316] at H
       have c316b0 : (t135 == 0) = false := beq_eq_false_iff_ne.mpr c316
       have c316b1 : (t135 != 0) = true := bne_iff_ne.mpr c316
       refine Or.elim (Classical.em (t136 = 0)) (fun c355 => ?p26_) (fun c355 => ?n26_)
       case' p26_ =>
        rw [if_pos c355] at H
        have c355b0 : (t136 == 0) = true := beq_iff_eq.mpr c355
        have c355b1 : (t136 != 0) = false := bne_eq_false_iff_eq.mpr c355
        clear c355
        replace H := Option.bind_eq_some_iff.mp H
        obtain ⟨t151, A3560, H⟩ := H
        replace H : (some t151) = some r := H
        have A356 := Aside0.mk A3560
        clear A3560
        have hm3_4 := Aside0.mk trivial
       case' n26_ =>
        rw [if_neg c355] at H
        have c355b0 : (t136 == 0) = false := beq_eq_false_iff_ne.mpr c355
        have c355b1 : (t136 != 0) = true := bne_iff_ne.mpr c355
        have hm3_0 := Aside0.mk trivial
   all_goals
    obtain rfl := Option.some.inj H
    first
     | clear hm3_0
       go_wp2
       go_ret
       exact ⟨by first | rfl | (simp [errW_none, errW_some] <;> rfl) | (simp [*, errW_none, errW_some] <;> rfl), by repeat (first | (with_reducible first | exact HB.out | apply below_alloc | apply pw_below_drewN | apply below_drew1 | refine below_set ?_ GE129.out | refine below_set ?_ GE130.out | refine below_set ?_ GE131.out | refine below_set ?_ GE132.out) | exact HB.out)⟩
     | (first | (have _hm := hm3_1) | (have _hm := hm3_2))
       have hnbzc1 := NB129_130.out
       have hnczc1 := NB130_129.out
       have hnbzc2 := NB129_131.out
       have hnczc2 := NB131_129.out
       have hnbzc3 := NB129_132.out
       have hnczc3 := NB132_129.out
       have hczzc1 : wc.cell? ⟨gb129, 0, none⟩ = some (.int .i64 a0_0) := (blk_cell BK129.out 0).trans rfl
       have hczzc2 : wc.cell? ⟨gb129, 1, none⟩ = some (.int .i64 a0_1) := (blk_cell BK129.out 1).trans rfl
       have hfzzc1 := blk_frozen BK129.out 0
       have hfzzc2 := blk_frozen BK129.out 1
       have hnbzc4 := NB130_131.out
       have hnczc4 := NB131_130.out
       have hnbzc5 := NB130_132.out
       have hnczc5 := NB132_130.out
       have hczzc3 : wc.cell? ⟨gb130, 0, none⟩ = some (.int .i64 a1_0) := (blk_cell BK130.out 0).trans rfl
       have hczzc4 : wc.cell? ⟨gb130, 1, none⟩ = some (.int .i64 a1_1) := (blk_cell BK130.out 1).trans rfl
       have hfzzc3 := blk_frozen BK130.out 0
       have hfzzc4 := blk_frozen BK130.out 1
       first
        | clear hm3_1
          have hnbzc6 := NB131_132.out
          have hnczc6 := NB132_131.out
          have hczzc5 : wc.cell? ⟨gb131, 0, none⟩ = some (.int .i64 a2_0) := (blk_cell BK131.out 0).trans rfl
          have hczzc6 : wc.cell? ⟨gb131, 1, none⟩ = some (.int .i64 a2_1) := (blk_cell BK131.out 1).trans rfl
          have hfzzc5 := blk_frozen BK131.out 0
          have hfzzc6 := blk_frozen BK131.out 1
          go_wp2_with (first | (go_at_call 74; (with_reducible refine (polygon_on.calls a2_0 a2_1 a3_0 a3_1 a1_0 a1_1 t144 _ A201.out).mono ?_); rintro e wx13551 ⟨rfl, hb⟩; have n0_ := Aside0.mk (blk_below (g := gb129) (o := .cells #[.int .i64 a0_0, .int .i64 a0_1] 25 (0, 0)) (by (with_reducible repeat (first | refine blk_drewN ?_ _ | refine blk_drew ?_ | refine blk_alloc ?_ _)); exact BK129.out) hb); have n1_ := Aside0.mk (blk_below (g := gb130) (o := .cells #[.int .i64 a1_0, .int .i64 a1_1] 25 (0, 0)) (by (with_reducible repeat (first | refine blk_drewN ?_ _ | refine blk_drew ?_ | refine blk_alloc ?_ _)); exact BK130.out) hb); have n2_ := Aside0.mk (blk_below (g := gb131) (o := .cells #[.int .i64 a2_0, .int .i64 a2_1] 25 (0, 0)) (by (with_reducible repeat (first | refine blk_drewN ?_ _ | refine blk_drew ?_ | refine blk_alloc ?_ _)); exact BK131.out) hb); have n3_ := Aside0.mk (blk_below (g := gb132) (o := .cells #[.int .i64 a3_0, .int .i64 a3_1] 25 (0, 0)) (by (with_reducible repeat (first | refine blk_drewN ?_ _ | refine blk_drew ?_ | refine blk_alloc ?_ _)); exact BK132.out) hb); have n4_ := Aside0.mk (below_step (by repeat (first | (with_reducible first | exact HB.out | apply below_alloc | apply pw_below_drewN | apply below_drew1 | refine below_set ?_ GE129.out | refine below_set ?_ GE130.out | refine below_set ?_ GE131.out | refine below_set ?_ GE132.out) | exact HB.out)) hb); clear BK129; clear BK130; clear BK131; clear BK132; clear HB; have BK129 := n0_; have BK130 := n1_; have BK131 := n2_; have BK132 := n3_; have HB := n4_; clear n0_ n1_ n2_ n3_ n4_; (try clear hb); (try clear hb2); (try clear hk); (try clear hi)) | (go_at_call 74; (with_reducible refine (polygon_on.calls a2_0 a2_1 a3_0 a3_1 a1_0 a1_1 t143 _ A167.out).mono ?_); rintro e wx97c41 ⟨rfl, hb⟩; have n0_ := Aside0.mk (blk_below (g := gb129) (o := .cells #[.int .i64 a0_0, .int .i64 a0_1] 25 (0, 0)) (by (with_reducible repeat (first | refine blk_drewN ?_ _ | refine blk_drew ?_ | refine blk_alloc ?_ _)); exact BK129.out) hb); have n1_ := Aside0.mk (blk_below (g := gb130) (o := .cells #[.int .i64 a1_0, .int .i64 a1_1] 25 (0, 0)) (by (with_reducible repeat (first | refine blk_drewN ?_ _ | refine blk_drew ?_ | refine blk_alloc ?_ _)); exact BK130.out) hb); have n2_ := Aside0.mk (blk_below (g := gb131) (o := .cells #[.int .i64 a2_0, .int .i64 a2_1] 25 (0, 0)) (by (with_reducible repeat (first | refine blk_drewN ?_ _ | refine blk_drew ?_ | refine blk_alloc ?_ _)); exact BK131.out) hb); have n3_ := Aside0.mk (blk_below (g := gb132) (o := .cells #[.int .i64 a3_0, .int .i64 a3_1] 25 (0, 0)) (by (with_reducible repeat (first | refine blk_drewN ?_ _ | refine blk_drew ?_ | refine blk_alloc ?_ _)); exact BK132.out) hb); have n4_ := Aside0.mk (below_step (by repeat (first | (with_reducible first | exact HB.out | apply below_alloc | apply pw_below_drewN | apply below_drew1 | refine below_set ?_ GE129.out | refine below_set ?_ GE130.out | refine below_set ?_ GE131.out | refine below_set ?_ GE132.out) | exact HB.out)) hb); clear BK129; clear BK130; clear BK131; clear BK132; clear HB; have BK129 := n0_; have BK130 := n1_; have BK131 := n2_; have BK132 := n3_; have HB := n4_; clear n0_ n1_ n2_ n3_ n4_; (try clear hb); (try clear hb2); (try clear hk); (try clear hi)) | (go_at_call 74; (with_reducible refine (polygon_on.calls a2_0 a2_1 a3_0 a3_1 a0_0 a0_1 false _ A150.out).mono ?_); rintro e wxd47b1 ⟨rfl, hb⟩; have n0_ := Aside0.mk (blk_below (g := gb129) (o := .cells #[.int .i64 a0_0, .int .i64 a0_1] 25 (0, 0)) (by (with_reducible repeat (first | refine blk_drewN ?_ _ | refine blk_drew ?_ | refine blk_alloc ?_ _)); exact BK129.out) hb); have n1_ := Aside0.mk (blk_below (g := gb130) (o := .cells #[.int .i64 a1_0, .int .i64 a1_1] 25 (0, 0)) (by (with_reducible repeat (first | refine blk_drewN ?_ _ | refine blk_drew ?_ | refine blk_alloc ?_ _)); exact BK130.out) hb); have n2_ := Aside0.mk (blk_below (g := gb131) (o := .cells #[.int .i64 a2_0, .int .i64 a2_1] 25 (0, 0)) (by (with_reducible repeat (first | refine blk_drewN ?_ _ | refine blk_drew ?_ | refine blk_alloc ?_ _)); exact BK131.out) hb); have n3_ := Aside0.mk (blk_below (g := gb132) (o := .cells #[.int .i64 a3_0, .int .i64 a3_1] 25 (0, 0)) (by (with_reducible repeat (first | refine blk_drewN ?_ _ | refine blk_drew ?_ | refine blk_alloc ?_ _)); exact BK132.out) hb); have n4_ := Aside0.mk (below_step (by repeat (first | (with_reducible first | exact HB.out | apply below_alloc | apply pw_below_drewN | apply below_drew1 | refine below_set ?_ GE129.out | refine below_set ?_ GE130.out | refine below_set ?_ GE131.out | refine below_set ?_ GE132.out) | exact HB.out)) hb); clear BK129; clear BK130; clear BK131; clear BK132; clear HB; have BK129 := n0_; have BK130 := n1_; have BK131 := n2_; have BK132 := n3_; have HB := n4_; clear n0_ n1_ n2_ n3_ n4_; (try clear hb); (try clear hb2); (try clear hk); (try clear hi); have hczy515320 : wxd47b1.cell? ⟨gb131, 0, none⟩ = some (.int .i64 a2_0) := (blk_cell BK131.out 0).trans rfl; have hczy515321 : wxd47b1.cell? ⟨gb131, 1, none⟩ = some (.int .i64 a2_1) := (blk_cell BK131.out 1).trans rfl; have hfzy515322 := blk_frozen BK131.out 0; have hfzy515323 := blk_frozen BK131.out 1; have hczy515324 : wxd47b1.cell? ⟨gb132, 0, none⟩ = some (.int .i64 a3_0) := (blk_cell BK132.out 0).trans rfl; have hczy515325 : wxd47b1.cell? ⟨gb132, 1, none⟩ = some (.int .i64 a3_1) := (blk_cell BK132.out 1).trans rfl; have hfzy515326 := blk_frozen BK132.out 0; have hfzy515327 := blk_frozen BK132.out 1; have hczy515328 : wxd47b1.cell? ⟨gb130, 0, none⟩ = some (.int .i64 a1_0) := (blk_cell BK130.out 0).trans rfl; have hczy515329 : wxd47b1.cell? ⟨gb130, 1, none⟩ = some (.int .i64 a1_1) := (blk_cell BK130.out 1).trans rfl; have hfzy5153210 := blk_frozen BK130.out 0; have hfzy5153211 := blk_frozen BK130.out 1) | (go_at_call 74; (with_reducible refine (polygon_on.calls a2_0 a2_1 a3_0 a3_1 a0_0 a0_1 true _ A150.out).mono ?_); rintro e wx06ab1 ⟨rfl, hb⟩; have n0_ := Aside0.mk (blk_below (g := gb129) (o := .cells #[.int .i64 a0_0, .int .i64 a0_1] 25 (0, 0)) (by (with_reducible repeat (first | refine blk_drewN ?_ _ | refine blk_drew ?_ | refine blk_alloc ?_ _)); exact BK129.out) hb); have n1_ := Aside0.mk (blk_below (g := gb130) (o := .cells #[.int .i64 a1_0, .int .i64 a1_1] 25 (0, 0)) (by (with_reducible repeat (first | refine blk_drewN ?_ _ | refine blk_drew ?_ | refine blk_alloc ?_ _)); exact BK130.out) hb); have n2_ := Aside0.mk (blk_below (g := gb131) (o := .cells #[.int .i64 a2_0, .int .i64 a2_1] 25 (0, 0)) (by (with_reducible repeat (first | refine blk_drewN ?_ _ | refine blk_drew ?_ | refine blk_alloc ?_ _)); exact BK131.out) hb); have n3_ := Aside0.mk (blk_below (g := gb132) (o := .cells #[.int .i64 a3_0, .int .i64 a3_1] 25 (0, 0)) (by (with_reducible repeat (first | refine blk_drewN ?_ _ | refine blk_drew ?_ | refine blk_alloc ?_ _)); exact BK132.out) hb); have n4_ := Aside0.mk (below_step (by repeat (first | (with_reducible first | exact HB.out | apply below_alloc | apply pw_below_drewN | apply below_drew1 | refine below_set ?_ GE129.out | refine below_set ?_ GE130.out | refine below_set ?_ GE131.out | refine below_set ?_ GE132.out) | exact HB.out)) hb); clear BK129; clear BK130; clear BK131; clear BK132; clear HB; have BK129 := n0_; have BK130 := n1_; have BK131 := n2_; have BK132 := n3_; have HB := n4_; clear n0_ n1_ n2_ n3_ n4_; (try clear hb); (try clear hb2); (try clear hk); (try clear hi)) | (go_at_call 74; (with_reducible refine (polygon_on.calls a2_0 a2_1 a3_0 a3_1 a1_0 a1_1 t141 _ A116.out).mono ?_); rintro e wx0a101 ⟨rfl, hb⟩; have n0_ := Aside0.mk (blk_below (g := gb129) (o := .cells #[.int .i64 a0_0, .int .i64 a0_1] 25 (0, 0)) (by (with_reducible repeat (first | refine blk_drewN ?_ _ | refine blk_drew ?_ | refine blk_alloc ?_ _)); exact BK129.out) hb); have n1_ := Aside0.mk (blk_below (g := gb130) (o := .cells #[.int .i64 a1_0, .int .i64 a1_1] 25 (0, 0)) (by (with_reducible repeat (first | refine blk_drewN ?_ _ | refine blk_drew ?_ | refine blk_alloc ?_ _)); exact BK130.out) hb); have n2_ := Aside0.mk (blk_below (g := gb131) (o := .cells #[.int .i64 a2_0, .int .i64 a2_1] 25 (0, 0)) (by (with_reducible repeat (first | refine blk_drewN ?_ _ | refine blk_drew ?_ | refine blk_alloc ?_ _)); exact BK131.out) hb); have n3_ := Aside0.mk (blk_below (g := gb132) (o := .cells #[.int .i64 a3_0, .int .i64 a3_1] 25 (0, 0)) (by (with_reducible repeat (first | refine blk_drewN ?_ _ | refine blk_drew ?_ | refine blk_alloc ?_ _)); exact BK132.out) hb); have n4_ := Aside0.mk (below_step (by repeat (first | (with_reducible first | exact HB.out | apply below_alloc | apply pw_below_drewN | apply below_drew1 | refine below_set ?_ GE129.out | refine below_set ?_ GE130.out | refine below_set ?_ GE131.out | refine below_set ?_ GE132.out) | exact HB.out)) hb); clear BK129; clear BK130; clear BK131; clear BK132; clear HB; have BK129 := n0_; have BK130 := n1_; have BK131 := n2_; have BK132 := n3_; have HB := n4_; clear n0_ n1_ n2_ n3_ n4_; (try clear hb); (try clear hb2); (try clear hk); (try clear hi)) | (go_at_call 74; (with_reducible refine (polygon_on.calls a2_0 a2_1 a3_0 a3_1 a1_0 a1_1 t140 _ A74.out).mono ?_); rintro e wxc9f41 ⟨rfl, hb⟩; have n0_ := Aside0.mk (blk_below (g := gb129) (o := .cells #[.int .i64 a0_0, .int .i64 a0_1] 25 (0, 0)) (by (with_reducible repeat (first | refine blk_drewN ?_ _ | refine blk_drew ?_ | refine blk_alloc ?_ _)); exact BK129.out) hb); have n1_ := Aside0.mk (blk_below (g := gb130) (o := .cells #[.int .i64 a1_0, .int .i64 a1_1] 25 (0, 0)) (by (with_reducible repeat (first | refine blk_drewN ?_ _ | refine blk_drew ?_ | refine blk_alloc ?_ _)); exact BK130.out) hb); have n2_ := Aside0.mk (blk_below (g := gb131) (o := .cells #[.int .i64 a2_0, .int .i64 a2_1] 25 (0, 0)) (by (with_reducible repeat (first | refine blk_drewN ?_ _ | refine blk_drew ?_ | refine blk_alloc ?_ _)); exact BK131.out) hb); have n3_ := Aside0.mk (blk_below (g := gb132) (o := .cells #[.int .i64 a3_0, .int .i64 a3_1] 25 (0, 0)) (by (with_reducible repeat (first | refine blk_drewN ?_ _ | refine blk_drew ?_ | refine blk_alloc ?_ _)); exact BK132.out) hb); have n4_ := Aside0.mk (below_step (by repeat (first | (with_reducible first | exact HB.out | apply below_alloc | apply pw_below_drewN | apply below_drew1 | refine below_set ?_ GE129.out | refine below_set ?_ GE130.out | refine below_set ?_ GE131.out | refine below_set ?_ GE132.out) | exact HB.out)) hb); clear BK129; clear BK130; clear BK131; clear BK132; clear HB; have BK129 := n0_; have BK130 := n1_; have BK131 := n2_; have BK132 := n3_; have HB := n4_; clear n0_ n1_ n2_ n3_ n4_; (try clear hb); (try clear hb2); (try clear hk); (try clear hi)) | (go_at_call 74; (with_reducible refine (polygon_on.calls a2_0 a2_1 a3_0 a3_1 a0_0 a0_1 false _ A53.out).mono ?_); rintro e wxb7801 ⟨rfl, hb⟩; have n0_ := Aside0.mk (blk_below (g := gb129) (o := .cells #[.int .i64 a0_0, .int .i64 a0_1] 25 (0, 0)) (by (with_reducible repeat (first | refine blk_drewN ?_ _ | refine blk_drew ?_ | refine blk_alloc ?_ _)); exact BK129.out) hb); have n1_ := Aside0.mk (blk_below (g := gb130) (o := .cells #[.int .i64 a1_0, .int .i64 a1_1] 25 (0, 0)) (by (with_reducible repeat (first | refine blk_drewN ?_ _ | refine blk_drew ?_ | refine blk_alloc ?_ _)); exact BK130.out) hb); have n2_ := Aside0.mk (blk_below (g := gb131) (o := .cells #[.int .i64 a2_0, .int .i64 a2_1] 25 (0, 0)) (by (with_reducible repeat (first | refine blk_drewN ?_ _ | refine blk_drew ?_ | refine blk_alloc ?_ _)); exact BK131.out) hb); have n3_ := Aside0.mk (blk_below (g := gb132) (o := .cells #[.int .i64 a3_0, .int .i64 a3_1] 25 (0, 0)) (by (with_reducible repeat (first | refine blk_drewN ?_ _ | refine blk_drew ?_ | refine blk_alloc ?_ _)); exact BK132.out) hb); have n4_ := Aside0.mk (below_step (by repeat (first | (with_reducible first | exact HB.out | apply below_alloc | apply pw_below_drewN | apply below_drew1 | refine below_set ?_ GE129.out | refine below_set ?_ GE130.out | refine below_set ?_ GE131.out | refine below_set ?_ GE132.out) | exact HB.out)) hb); clear BK129; clear BK130; clear BK131; clear BK132; clear HB; have BK129 := n0_; have BK130 := n1_; have BK131 := n2_; have BK132 := n3_; have HB := n4_; clear n0_ n1_ n2_ n3_ n4_; (try clear hb); (try clear hb2); (try clear hk); (try clear hi); have hczyad4490 : wxb7801.cell? ⟨gb131, 0, none⟩ = some (.int .i64 a2_0) := (blk_cell BK131.out 0).trans rfl; have hczyad4491 : wxb7801.cell? ⟨gb131, 1, none⟩ = some (.int .i64 a2_1) := (blk_cell BK131.out 1).trans rfl; have hfzyad4492 := blk_frozen BK131.out 0; have hfzyad4493 := blk_frozen BK131.out 1; have hczyad4494 : wxb7801.cell? ⟨gb132, 0, none⟩ = some (.int .i64 a3_0) := (blk_cell BK132.out 0).trans rfl; have hczyad4495 : wxb7801.cell? ⟨gb132, 1, none⟩ = some (.int .i64 a3_1) := (blk_cell BK132.out 1).trans rfl; have hfzyad4496 := blk_frozen BK132.out 0; have hfzyad4497 := blk_frozen BK132.out 1; have hczyad4498 : wxb7801.cell? ⟨gb130, 0, none⟩ = some (.int .i64 a1_0) := (blk_cell BK130.out 0).trans rfl; have hczyad4499 : wxb7801.cell? ⟨gb130, 1, none⟩ = some (.int .i64 a1_1) := (blk_cell BK130.out 1).trans rfl; have hfzyad44910 := blk_frozen BK130.out 0; have hfzyad44911 := blk_frozen BK130.out 1) | (go_at_call 74; (with_reducible refine (polygon_on.calls a2_0 a2_1 a3_0 a3_1 a0_0 a0_1 true _ A53.out).mono ?_); rintro e wx5cfb1 ⟨rfl, hb⟩; have n0_ := Aside0.mk (blk_below (g := gb129) (o := .cells #[.int .i64 a0_0, .int .i64 a0_1] 25 (0, 0)) (by (with_reducible repeat (first | refine blk_drewN ?_ _ | refine blk_drew ?_ | refine blk_alloc ?_ _)); exact BK129.out) hb); have n1_ := Aside0.mk (blk_below (g := gb130) (o := .cells #[.int .i64 a1_0, .int .i64 a1_1] 25 (0, 0)) (by (with_reducible repeat (first | refine blk_drewN ?_ _ | refine blk_drew ?_ | refine blk_alloc ?_ _)); exact BK130.out) hb); have n2_ := Aside0.mk (blk_below (g := gb131) (o := .cells #[.int .i64 a2_0, .int .i64 a2_1] 25 (0, 0)) (by (with_reducible repeat (first | refine blk_drewN ?_ _ | refine blk_drew ?_ | refine blk_alloc ?_ _)); exact BK131.out) hb); have n3_ := Aside0.mk (blk_below (g := gb132) (o := .cells #[.int .i64 a3_0, .int .i64 a3_1] 25 (0, 0)) (by (with_reducible repeat (first | refine blk_drewN ?_ _ | refine blk_drew ?_ | refine blk_alloc ?_ _)); exact BK132.out) hb); have n4_ := Aside0.mk (below_step (by repeat (first | (with_reducible first | exact HB.out | apply below_alloc | apply pw_below_drewN | apply below_drew1 | refine below_set ?_ GE129.out | refine below_set ?_ GE130.out | refine below_set ?_ GE131.out | refine below_set ?_ GE132.out) | exact HB.out)) hb); clear BK129; clear BK130; clear BK131; clear BK132; clear HB; have BK129 := n0_; have BK130 := n1_; have BK131 := n2_; have BK132 := n3_; have HB := n4_; clear n0_ n1_ n2_ n3_ n4_; (try clear hb); (try clear hb2); (try clear hk); (try clear hi)) | (go_at_call 74; (with_reducible refine (polygon_on.calls a0_0 a0_1 a1_0 a1_1 a3_0 a3_1 false _ A36.out).mono ?_); rintro e wx50d11 ⟨rfl, hb⟩; have n0_ := Aside0.mk (blk_below (g := gb129) (o := .cells #[.int .i64 a0_0, .int .i64 a0_1] 25 (0, 0)) (by (with_reducible repeat (first | refine blk_drewN ?_ _ | refine blk_drew ?_ | refine blk_alloc ?_ _)); exact BK129.out) hb); have n1_ := Aside0.mk (blk_below (g := gb130) (o := .cells #[.int .i64 a1_0, .int .i64 a1_1] 25 (0, 0)) (by (with_reducible repeat (first | refine blk_drewN ?_ _ | refine blk_drew ?_ | refine blk_alloc ?_ _)); exact BK130.out) hb); have n2_ := Aside0.mk (blk_below (g := gb131) (o := .cells #[.int .i64 a2_0, .int .i64 a2_1] 25 (0, 0)) (by (with_reducible repeat (first | refine blk_drewN ?_ _ | refine blk_drew ?_ | refine blk_alloc ?_ _)); exact BK131.out) hb); have n3_ := Aside0.mk (blk_below (g := gb132) (o := .cells #[.int .i64 a3_0, .int .i64 a3_1] 25 (0, 0)) (by (with_reducible repeat (first | refine blk_drewN ?_ _ | refine blk_drew ?_ | refine blk_alloc ?_ _)); exact BK132.out) hb); have n4_ := Aside0.mk (below_step (by repeat (first | (with_reducible first | exact HB.out | apply below_alloc | apply pw_below_drewN | apply below_drew1 | refine below_set ?_ GE129.out | refine below_set ?_ GE130.out | refine below_set ?_ GE131.out | refine below_set ?_ GE132.out) | exact HB.out)) hb); clear BK129; clear BK130; clear BK131; clear BK132; clear HB; have BK129 := n0_; have BK130 := n1_; have BK131 := n2_; have BK132 := n3_; have HB := n4_; clear n0_ n1_ n2_ n3_ n4_; (try clear hb); (try clear hb2); (try clear hk); (try clear hi); have hczy00a120 : wx50d11.cell? ⟨gb131, 0, none⟩ = some (.int .i64 a2_0) := (blk_cell BK131.out 0).trans rfl; have hczy00a121 : wx50d11.cell? ⟨gb131, 1, none⟩ = some (.int .i64 a2_1) := (blk_cell BK131.out 1).trans rfl; have hfzy00a122 := blk_frozen BK131.out 0; have hfzy00a123 := blk_frozen BK131.out 1; have hczy00a124 : wx50d11.cell? ⟨gb132, 0, none⟩ = some (.int .i64 a3_0) := (blk_cell BK132.out 0).trans rfl; have hczy00a125 : wx50d11.cell? ⟨gb132, 1, none⟩ = some (.int .i64 a3_1) := (blk_cell BK132.out 1).trans rfl; have hfzy00a126 := blk_frozen BK132.out 0; have hfzy00a127 := blk_frozen BK132.out 1; have hczy00a128 : wx50d11.cell? ⟨gb129, 0, none⟩ = some (.int .i64 a0_0) := (blk_cell BK129.out 0).trans rfl; have hczy00a129 : wx50d11.cell? ⟨gb129, 1, none⟩ = some (.int .i64 a0_1) := (blk_cell BK129.out 1).trans rfl; have hfzy00a1210 := blk_frozen BK129.out 0; have hfzy00a1211 := blk_frozen BK129.out 1; have hczy00a1212 : wx50d11.cell? ⟨gb130, 0, none⟩ = some (.int .i64 a1_0) := (blk_cell BK130.out 0).trans rfl; have hczy00a1213 : wx50d11.cell? ⟨gb130, 1, none⟩ = some (.int .i64 a1_1) := (blk_cell BK130.out 1).trans rfl; have hfzy00a1214 := blk_frozen BK130.out 0; have hfzy00a1215 := blk_frozen BK130.out 1) | (go_at_call 74; (with_reducible refine (polygon_on.calls a0_0 a0_1 a1_0 a1_1 a3_0 a3_1 true _ A36.out).mono ?_); rintro e wx84fa1 ⟨rfl, hb⟩; have n0_ := Aside0.mk (blk_below (g := gb129) (o := .cells #[.int .i64 a0_0, .int .i64 a0_1] 25 (0, 0)) (by (with_reducible repeat (first | refine blk_drewN ?_ _ | refine blk_drew ?_ | refine blk_alloc ?_ _)); exact BK129.out) hb); have n1_ := Aside0.mk (blk_below (g := gb130) (o := .cells #[.int .i64 a1_0, .int .i64 a1_1] 25 (0, 0)) (by (with_reducible repeat (first | refine blk_drewN ?_ _ | refine blk_drew ?_ | refine blk_alloc ?_ _)); exact BK130.out) hb); have n2_ := Aside0.mk (blk_below (g := gb131) (o := .cells #[.int .i64 a2_0, .int .i64 a2_1] 25 (0, 0)) (by (with_reducible repeat (first | refine blk_drewN ?_ _ | refine blk_drew ?_ | refine blk_alloc ?_ _)); exact BK131.out) hb); have n3_ := Aside0.mk (blk_below (g := gb132) (o := .cells #[.int .i64 a3_0, .int .i64 a3_1] 25 (0, 0)) (by (with_reducible repeat (first | refine blk_drewN ?_ _ | refine blk_drew ?_ | refine blk_alloc ?_ _)); exact BK132.out) hb); have n4_ := Aside0.mk (below_step (by repeat (first | (with_reducible first | exact HB.out | apply below_alloc | apply pw_below_drewN | apply below_drew1 | refine below_set ?_ GE129.out | refine below_set ?_ GE130.out | refine below_set ?_ GE131.out | refine below_set ?_ GE132.out) | exact HB.out)) hb); clear BK129; clear BK130; clear BK131; clear BK132; clear HB; have BK129 := n0_; have BK130 := n1_; have BK131 := n2_; have BK132 := n3_; have HB := n4_; clear n0_ n1_ n2_ n3_ n4_; (try clear hb); (try clear hb2); (try clear hk); (try clear hi)) | (go_at_call 74; (with_reducible refine (polygon_on.calls a0_0 a0_1 a1_0 a1_1 a2_0 a2_1 false _ A23.out).mono ?_); rintro e wxefbe1 ⟨rfl, hb⟩; have n0_ := Aside0.mk (blk_below (g := gb129) (o := .cells #[.int .i64 a0_0, .int .i64 a0_1] 25 (0, 0)) (by (with_reducible repeat (first | refine blk_drewN ?_ _ | refine blk_drew ?_ | refine blk_alloc ?_ _)); exact BK129.out) hb); have n1_ := Aside0.mk (blk_below (g := gb130) (o := .cells #[.int .i64 a1_0, .int .i64 a1_1] 25 (0, 0)) (by (with_reducible repeat (first | refine blk_drewN ?_ _ | refine blk_drew ?_ | refine blk_alloc ?_ _)); exact BK130.out) hb); have n2_ := Aside0.mk (blk_below (g := gb131) (o := .cells #[.int .i64 a2_0, .int .i64 a2_1] 25 (0, 0)) (by (with_reducible repeat (first | refine blk_drewN ?_ _ | refine blk_drew ?_ | refine blk_alloc ?_ _)); exact BK131.out) hb); have n3_ := Aside0.mk (blk_below (g := gb132) (o := .cells #[.int .i64 a3_0, .int .i64 a3_1] 25 (0, 0)) (by (with_reducible repeat (first | refine blk_drewN ?_ _ | refine blk_drew ?_ | refine blk_alloc ?_ _)); exact BK132.out) hb); have n4_ := Aside0.mk (below_step (by repeat (first | (with_reducible first | exact HB.out | apply below_alloc | apply pw_below_drewN | apply below_drew1 | refine below_set ?_ GE129.out | refine below_set ?_ GE130.out | refine below_set ?_ GE131.out | refine below_set ?_ GE132.out) | exact HB.out)) hb); clear BK129; clear BK130; clear BK131; clear BK132; clear HB; have BK129 := n0_; have BK130 := n1_; have BK131 := n2_; have BK132 := n3_; have HB := n4_; clear n0_ n1_ n2_ n3_ n4_; (try clear hb); (try clear hb2); (try clear hk); (try clear hi); have hczy042f10 : wxefbe1.cell? ⟨gb129, 0, none⟩ = some (.int .i64 a0_0) := (blk_cell BK129.out 0).trans rfl; have hczy042f11 : wxefbe1.cell? ⟨gb129, 1, none⟩ = some (.int .i64 a0_1) := (blk_cell BK129.out 1).trans rfl; have hfzy042f12 := blk_frozen BK129.out 0; have hfzy042f13 := blk_frozen BK129.out 1; have hczy042f14 : wxefbe1.cell? ⟨gb130, 0, none⟩ = some (.int .i64 a1_0) := (blk_cell BK130.out 0).trans rfl; have hczy042f15 : wxefbe1.cell? ⟨gb130, 1, none⟩ = some (.int .i64 a1_1) := (blk_cell BK130.out 1).trans rfl; have hfzy042f16 := blk_frozen BK130.out 0; have hfzy042f17 := blk_frozen BK130.out 1; have hczy042f18 : wxefbe1.cell? ⟨gb132, 0, none⟩ = some (.int .i64 a3_0) := (blk_cell BK132.out 0).trans rfl; have hczy042f19 : wxefbe1.cell? ⟨gb132, 1, none⟩ = some (.int .i64 a3_1) := (blk_cell BK132.out 1).trans rfl; have hfzy042f110 := blk_frozen BK132.out 0; have hfzy042f111 := blk_frozen BK132.out 1; have hczy042f112 : wxefbe1.cell? ⟨gb131, 0, none⟩ = some (.int .i64 a2_0) := (blk_cell BK131.out 0).trans rfl; have hczy042f113 : wxefbe1.cell? ⟨gb131, 1, none⟩ = some (.int .i64 a2_1) := (blk_cell BK131.out 1).trans rfl; have hfzy042f114 := blk_frozen BK131.out 0; have hfzy042f115 := blk_frozen BK131.out 1) | (go_at_call 74; (with_reducible refine (polygon_on.calls a0_0 a0_1 a1_0 a1_1 a2_0 a2_1 true _ A23.out).mono ?_); rintro e wx9d961 ⟨rfl, hb⟩; have n0_ := Aside0.mk (blk_below (g := gb129) (o := .cells #[.int .i64 a0_0, .int .i64 a0_1] 25 (0, 0)) (by (with_reducible repeat (first | refine blk_drewN ?_ _ | refine blk_drew ?_ | refine blk_alloc ?_ _)); exact BK129.out) hb); have n1_ := Aside0.mk (blk_below (g := gb130) (o := .cells #[.int .i64 a1_0, .int .i64 a1_1] 25 (0, 0)) (by (with_reducible repeat (first | refine blk_drewN ?_ _ | refine blk_drew ?_ | refine blk_alloc ?_ _)); exact BK130.out) hb); have n2_ := Aside0.mk (blk_below (g := gb131) (o := .cells #[.int .i64 a2_0, .int .i64 a2_1] 25 (0, 0)) (by (with_reducible repeat (first | refine blk_drewN ?_ _ | refine blk_drew ?_ | refine blk_alloc ?_ _)); exact BK131.out) hb); have n3_ := Aside0.mk (blk_below (g := gb132) (o := .cells #[.int .i64 a3_0, .int .i64 a3_1] 25 (0, 0)) (by (with_reducible repeat (first | refine blk_drewN ?_ _ | refine blk_drew ?_ | refine blk_alloc ?_ _)); exact BK132.out) hb); have n4_ := Aside0.mk (below_step (by repeat (first | (with_reducible first | exact HB.out | apply below_alloc | apply pw_below_drewN | apply below_drew1 | refine below_set ?_ GE129.out | refine below_set ?_ GE130.out | refine below_set ?_ GE131.out | refine below_set ?_ GE132.out) | exact HB.out)) hb); clear BK129; clear BK130; clear BK131; clear BK132; clear HB; have BK129 := n0_; have BK130 := n1_; have BK131 := n2_; have BK132 := n3_; have HB := n4_; clear n0_ n1_ n2_ n3_ n4_; (try clear hb); (try clear hb2); (try clear hk); (try clear hi)))
          go_ret
          exact ⟨by first | rfl | (simp [errW_none, errW_some] <;> rfl) | (simp [*, errW_none, errW_some] <;> rfl), by repeat (first | (with_reducible first | exact HB.out | apply below_alloc | apply pw_below_drewN | apply below_drew1 | refine below_set ?_ GE129.out | refine below_set ?_ GE130.out | refine below_set ?_ GE131.out | refine below_set ?_ GE132.out) | exact HB.out)⟩
        | clear hm3_2
          have hnbzc6 := NB132_131.out
          have hnczc6 := NB131_132.out
          have hczzc5 : wc.cell? ⟨gb132, 0, none⟩ = some (.int .i64 a3_0) := (blk_cell BK132.out 0).trans rfl
          have hczzc6 : wc.cell? ⟨gb132, 1, none⟩ = some (.int .i64 a3_1) := (blk_cell BK132.out 1).trans rfl
          have hfzzc5 := blk_frozen BK132.out 0
          have hfzzc6 := blk_frozen BK132.out 1
          go_wp2_with (first | (go_at_call 74; (with_reducible refine (polygon_on.calls a2_0 a2_1 a3_0 a3_1 a1_0 a1_1 t148 _ A291.out).mono ?_); rintro e wxb6451 ⟨rfl, hb⟩; have n0_ := Aside0.mk (blk_below (g := gb129) (o := .cells #[.int .i64 a0_0, .int .i64 a0_1] 25 (0, 0)) (by (with_reducible repeat (first | refine blk_drewN ?_ _ | refine blk_drew ?_ | refine blk_alloc ?_ _)); exact BK129.out) hb); have n1_ := Aside0.mk (blk_below (g := gb130) (o := .cells #[.int .i64 a1_0, .int .i64 a1_1] 25 (0, 0)) (by (with_reducible repeat (first | refine blk_drewN ?_ _ | refine blk_drew ?_ | refine blk_alloc ?_ _)); exact BK130.out) hb); have n2_ := Aside0.mk (blk_below (g := gb131) (o := .cells #[.int .i64 a2_0, .int .i64 a2_1] 25 (0, 0)) (by (with_reducible repeat (first | refine blk_drewN ?_ _ | refine blk_drew ?_ | refine blk_alloc ?_ _)); exact BK131.out) hb); have n3_ := Aside0.mk (blk_below (g := gb132) (o := .cells #[.int .i64 a3_0, .int .i64 a3_1] 25 (0, 0)) (by (with_reducible repeat (first | refine blk_drewN ?_ _ | refine blk_drew ?_ | refine blk_alloc ?_ _)); exact BK132.out) hb); have n4_ := Aside0.mk (below_step (by repeat (first | (with_reducible first | exact HB.out | apply below_alloc | apply pw_below_drewN | apply below_drew1 | refine below_set ?_ GE129.out | refine below_set ?_ GE130.out | refine below_set ?_ GE131.out | refine below_set ?_ GE132.out) | exact HB.out)) hb); clear BK129; clear BK130; clear BK131; clear BK132; clear HB; have BK129 := n0_; have BK130 := n1_; have BK131 := n2_; have BK132 := n3_; have HB := n4_; clear n0_ n1_ n2_ n3_ n4_; (try clear hb); (try clear hb2); (try clear hk); (try clear hi)) | (go_at_call 74; (with_reducible refine (polygon_on.calls a2_0 a2_1 a3_0 a3_1 a1_0 a1_1 t147 _ A257.out).mono ?_); rintro e wxeb2f1 ⟨rfl, hb⟩; have n0_ := Aside0.mk (blk_below (g := gb129) (o := .cells #[.int .i64 a0_0, .int .i64 a0_1] 25 (0, 0)) (by (with_reducible repeat (first | refine blk_drewN ?_ _ | refine blk_drew ?_ | refine blk_alloc ?_ _)); exact BK129.out) hb); have n1_ := Aside0.mk (blk_below (g := gb130) (o := .cells #[.int .i64 a1_0, .int .i64 a1_1] 25 (0, 0)) (by (with_reducible repeat (first | refine blk_drewN ?_ _ | refine blk_drew ?_ | refine blk_alloc ?_ _)); exact BK130.out) hb); have n2_ := Aside0.mk (blk_below (g := gb131) (o := .cells #[.int .i64 a2_0, .int .i64 a2_1] 25 (0, 0)) (by (with_reducible repeat (first | refine blk_drewN ?_ _ | refine blk_drew ?_ | refine blk_alloc ?_ _)); exact BK131.out) hb); have n3_ := Aside0.mk (blk_below (g := gb132) (o := .cells #[.int .i64 a3_0, .int .i64 a3_1] 25 (0, 0)) (by (with_reducible repeat (first | refine blk_drewN ?_ _ | refine blk_drew ?_ | refine blk_alloc ?_ _)); exact BK132.out) hb); have n4_ := Aside0.mk (below_step (by repeat (first | (with_reducible first | exact HB.out | apply below_alloc | apply pw_below_drewN | apply below_drew1 | refine below_set ?_ GE129.out | refine below_set ?_ GE130.out | refine below_set ?_ GE131.out | refine below_set ?_ GE132.out) | exact HB.out)) hb); clear BK129; clear BK130; clear BK131; clear BK132; clear HB; have BK129 := n0_; have BK130 := n1_; have BK131 := n2_; have BK132 := n3_; have HB := n4_; clear n0_ n1_ n2_ n3_ n4_; (try clear hb); (try clear hb2); (try clear hk); (try clear hi)) | (go_at_call 74; (with_reducible refine (polygon_on.calls a2_0 a2_1 a3_0 a3_1 a0_0 a0_1 false _ A240.out).mono ?_); rintro e wx45b71 ⟨rfl, hb⟩; have n0_ := Aside0.mk (blk_below (g := gb129) (o := .cells #[.int .i64 a0_0, .int .i64 a0_1] 25 (0, 0)) (by (with_reducible repeat (first | refine blk_drewN ?_ _ | refine blk_drew ?_ | refine blk_alloc ?_ _)); exact BK129.out) hb); have n1_ := Aside0.mk (blk_below (g := gb130) (o := .cells #[.int .i64 a1_0, .int .i64 a1_1] 25 (0, 0)) (by (with_reducible repeat (first | refine blk_drewN ?_ _ | refine blk_drew ?_ | refine blk_alloc ?_ _)); exact BK130.out) hb); have n2_ := Aside0.mk (blk_below (g := gb131) (o := .cells #[.int .i64 a2_0, .int .i64 a2_1] 25 (0, 0)) (by (with_reducible repeat (first | refine blk_drewN ?_ _ | refine blk_drew ?_ | refine blk_alloc ?_ _)); exact BK131.out) hb); have n3_ := Aside0.mk (blk_below (g := gb132) (o := .cells #[.int .i64 a3_0, .int .i64 a3_1] 25 (0, 0)) (by (with_reducible repeat (first | refine blk_drewN ?_ _ | refine blk_drew ?_ | refine blk_alloc ?_ _)); exact BK132.out) hb); have n4_ := Aside0.mk (below_step (by repeat (first | (with_reducible first | exact HB.out | apply below_alloc | apply pw_below_drewN | apply below_drew1 | refine below_set ?_ GE129.out | refine below_set ?_ GE130.out | refine below_set ?_ GE131.out | refine below_set ?_ GE132.out) | exact HB.out)) hb); clear BK129; clear BK130; clear BK131; clear BK132; clear HB; have BK129 := n0_; have BK130 := n1_; have BK131 := n2_; have BK132 := n3_; have HB := n4_; clear n0_ n1_ n2_ n3_ n4_; (try clear hb); (try clear hb2); (try clear hk); (try clear hi); have hczy03d860 : wx45b71.cell? ⟨gb131, 0, none⟩ = some (.int .i64 a2_0) := (blk_cell BK131.out 0).trans rfl; have hczy03d861 : wx45b71.cell? ⟨gb131, 1, none⟩ = some (.int .i64 a2_1) := (blk_cell BK131.out 1).trans rfl; have hfzy03d862 := blk_frozen BK131.out 0; have hfzy03d863 := blk_frozen BK131.out 1; have hczy03d864 : wx45b71.cell? ⟨gb132, 0, none⟩ = some (.int .i64 a3_0) := (blk_cell BK132.out 0).trans rfl; have hczy03d865 : wx45b71.cell? ⟨gb132, 1, none⟩ = some (.int .i64 a3_1) := (blk_cell BK132.out 1).trans rfl; have hfzy03d866 := blk_frozen BK132.out 0; have hfzy03d867 := blk_frozen BK132.out 1; have hczy03d868 : wx45b71.cell? ⟨gb130, 0, none⟩ = some (.int .i64 a1_0) := (blk_cell BK130.out 0).trans rfl; have hczy03d869 : wx45b71.cell? ⟨gb130, 1, none⟩ = some (.int .i64 a1_1) := (blk_cell BK130.out 1).trans rfl; have hfzy03d8610 := blk_frozen BK130.out 0; have hfzy03d8611 := blk_frozen BK130.out 1) | (go_at_call 74; (with_reducible refine (polygon_on.calls a2_0 a2_1 a3_0 a3_1 a0_0 a0_1 true _ A240.out).mono ?_); rintro e wxbbff1 ⟨rfl, hb⟩; have n0_ := Aside0.mk (blk_below (g := gb129) (o := .cells #[.int .i64 a0_0, .int .i64 a0_1] 25 (0, 0)) (by (with_reducible repeat (first | refine blk_drewN ?_ _ | refine blk_drew ?_ | refine blk_alloc ?_ _)); exact BK129.out) hb); have n1_ := Aside0.mk (blk_below (g := gb130) (o := .cells #[.int .i64 a1_0, .int .i64 a1_1] 25 (0, 0)) (by (with_reducible repeat (first | refine blk_drewN ?_ _ | refine blk_drew ?_ | refine blk_alloc ?_ _)); exact BK130.out) hb); have n2_ := Aside0.mk (blk_below (g := gb131) (o := .cells #[.int .i64 a2_0, .int .i64 a2_1] 25 (0, 0)) (by (with_reducible repeat (first | refine blk_drewN ?_ _ | refine blk_drew ?_ | refine blk_alloc ?_ _)); exact BK131.out) hb); have n3_ := Aside0.mk (blk_below (g := gb132) (o := .cells #[.int .i64 a3_0, .int .i64 a3_1] 25 (0, 0)) (by (with_reducible repeat (first | refine blk_drewN ?_ _ | refine blk_drew ?_ | refine blk_alloc ?_ _)); exact BK132.out) hb); have n4_ := Aside0.mk (below_step (by repeat (first | (with_reducible first | exact HB.out | apply below_alloc | apply pw_below_drewN | apply below_drew1 | refine below_set ?_ GE129.out | refine below_set ?_ GE130.out | refine below_set ?_ GE131.out | refine below_set ?_ GE132.out) | exact HB.out)) hb); clear BK129; clear BK130; clear BK131; clear BK132; clear HB; have BK129 := n0_; have BK130 := n1_; have BK131 := n2_; have BK132 := n3_; have HB := n4_; clear n0_ n1_ n2_ n3_ n4_; (try clear hb); (try clear hb2); (try clear hk); (try clear hi)) | (go_at_call 74; (with_reducible refine (polygon_on.calls a0_0 a0_1 a1_0 a1_1 a3_0 a3_1 false _ A227.out).mono ?_); rintro e wx12981 ⟨rfl, hb⟩; have n0_ := Aside0.mk (blk_below (g := gb129) (o := .cells #[.int .i64 a0_0, .int .i64 a0_1] 25 (0, 0)) (by (with_reducible repeat (first | refine blk_drewN ?_ _ | refine blk_drew ?_ | refine blk_alloc ?_ _)); exact BK129.out) hb); have n1_ := Aside0.mk (blk_below (g := gb130) (o := .cells #[.int .i64 a1_0, .int .i64 a1_1] 25 (0, 0)) (by (with_reducible repeat (first | refine blk_drewN ?_ _ | refine blk_drew ?_ | refine blk_alloc ?_ _)); exact BK130.out) hb); have n2_ := Aside0.mk (blk_below (g := gb131) (o := .cells #[.int .i64 a2_0, .int .i64 a2_1] 25 (0, 0)) (by (with_reducible repeat (first | refine blk_drewN ?_ _ | refine blk_drew ?_ | refine blk_alloc ?_ _)); exact BK131.out) hb); have n3_ := Aside0.mk (blk_below (g := gb132) (o := .cells #[.int .i64 a3_0, .int .i64 a3_1] 25 (0, 0)) (by (with_reducible repeat (first | refine blk_drewN ?_ _ | refine blk_drew ?_ | refine blk_alloc ?_ _)); exact BK132.out) hb); have n4_ := Aside0.mk (below_step (by repeat (first | (with_reducible first | exact HB.out | apply below_alloc | apply pw_below_drewN | apply below_drew1 | refine below_set ?_ GE129.out | refine below_set ?_ GE130.out | refine below_set ?_ GE131.out | refine below_set ?_ GE132.out) | exact HB.out)) hb); clear BK129; clear BK130; clear BK131; clear BK132; clear HB; have BK129 := n0_; have BK130 := n1_; have BK131 := n2_; have BK132 := n3_; have HB := n4_; clear n0_ n1_ n2_ n3_ n4_; (try clear hb); (try clear hb2); (try clear hk); (try clear hi); have hczye027a0 : wx12981.cell? ⟨gb131, 0, none⟩ = some (.int .i64 a2_0) := (blk_cell BK131.out 0).trans rfl; have hczye027a1 : wx12981.cell? ⟨gb131, 1, none⟩ = some (.int .i64 a2_1) := (blk_cell BK131.out 1).trans rfl; have hfzye027a2 := blk_frozen BK131.out 0; have hfzye027a3 := blk_frozen BK131.out 1; have hczye027a4 : wx12981.cell? ⟨gb132, 0, none⟩ = some (.int .i64 a3_0) := (blk_cell BK132.out 0).trans rfl; have hczye027a5 : wx12981.cell? ⟨gb132, 1, none⟩ = some (.int .i64 a3_1) := (blk_cell BK132.out 1).trans rfl; have hfzye027a6 := blk_frozen BK132.out 0; have hfzye027a7 := blk_frozen BK132.out 1; have hczye027a8 : wx12981.cell? ⟨gb129, 0, none⟩ = some (.int .i64 a0_0) := (blk_cell BK129.out 0).trans rfl; have hczye027a9 : wx12981.cell? ⟨gb129, 1, none⟩ = some (.int .i64 a0_1) := (blk_cell BK129.out 1).trans rfl; have hfzye027a10 := blk_frozen BK129.out 0; have hfzye027a11 := blk_frozen BK129.out 1; have hczye027a12 : wx12981.cell? ⟨gb130, 0, none⟩ = some (.int .i64 a1_0) := (blk_cell BK130.out 0).trans rfl; have hczye027a13 : wx12981.cell? ⟨gb130, 1, none⟩ = some (.int .i64 a1_1) := (blk_cell BK130.out 1).trans rfl; have hfzye027a14 := blk_frozen BK130.out 0; have hfzye027a15 := blk_frozen BK130.out 1) | (go_at_call 74; (with_reducible refine (polygon_on.calls a0_0 a0_1 a1_0 a1_1 a3_0 a3_1 true _ A227.out).mono ?_); rintro e wx426b1 ⟨rfl, hb⟩; have n0_ := Aside0.mk (blk_below (g := gb129) (o := .cells #[.int .i64 a0_0, .int .i64 a0_1] 25 (0, 0)) (by (with_reducible repeat (first | refine blk_drewN ?_ _ | refine blk_drew ?_ | refine blk_alloc ?_ _)); exact BK129.out) hb); have n1_ := Aside0.mk (blk_below (g := gb130) (o := .cells #[.int .i64 a1_0, .int .i64 a1_1] 25 (0, 0)) (by (with_reducible repeat (first | refine blk_drewN ?_ _ | refine blk_drew ?_ | refine blk_alloc ?_ _)); exact BK130.out) hb); have n2_ := Aside0.mk (blk_below (g := gb131) (o := .cells #[.int .i64 a2_0, .int .i64 a2_1] 25 (0, 0)) (by (with_reducible repeat (first | refine blk_drewN ?_ _ | refine blk_drew ?_ | refine blk_alloc ?_ _)); exact BK131.out) hb); have n3_ := Aside0.mk (blk_below (g := gb132) (o := .cells #[.int .i64 a3_0, .int .i64 a3_1] 25 (0, 0)) (by (with_reducible repeat (first | refine blk_drewN ?_ _ | refine blk_drew ?_ | refine blk_alloc ?_ _)); exact BK132.out) hb); have n4_ := Aside0.mk (below_step (by repeat (first | (with_reducible first | exact HB.out | apply below_alloc | apply pw_below_drewN | apply below_drew1 | refine below_set ?_ GE129.out | refine below_set ?_ GE130.out | refine below_set ?_ GE131.out | refine below_set ?_ GE132.out) | exact HB.out)) hb); clear BK129; clear BK130; clear BK131; clear BK132; clear HB; have BK129 := n0_; have BK130 := n1_; have BK131 := n2_; have BK132 := n3_; have HB := n4_; clear n0_ n1_ n2_ n3_ n4_; (try clear hb); (try clear hb2); (try clear hk); (try clear hi)))
          go_ret
          exact ⟨by first | rfl | (simp [errW_none, errW_some] <;> rfl) | (simp [*, errW_none, errW_some] <;> rfl), by repeat (first | (with_reducible first | exact HB.out | apply below_alloc | apply pw_below_drewN | apply below_drew1 | refine below_set ?_ GE129.out | refine below_set ?_ GE130.out | refine below_set ?_ GE131.out | refine below_set ?_ GE132.out) | exact HB.out)⟩
     | (first | (have _hm := hm3_3) | (have _hm := hm3_4))
       have hnbzc1 := NB131_129.out
       have hnczc1 := NB129_131.out
       have hnbzc2 := NB131_130.out
       have hnczc2 := NB130_131.out
       have hnbzc3 := NB131_132.out
       have hnczc3 := NB132_131.out
       have hczzc1 : wc.cell? ⟨gb131, 0, none⟩ = some (.int .i64 a2_0) := (blk_cell BK131.out 0).trans rfl
       have hczzc2 : wc.cell? ⟨gb131, 1, none⟩ = some (.int .i64 a2_1) := (blk_cell BK131.out 1).trans rfl
       have hfzzc1 := blk_frozen BK131.out 0
       have hfzzc2 := blk_frozen BK131.out 1
       have hnbzc4 := NB132_129.out
       have hnczc4 := NB129_132.out
       have hnbzc5 := NB132_130.out
       have hnczc5 := NB130_132.out
       have hczzc3 : wc.cell? ⟨gb132, 0, none⟩ = some (.int .i64 a3_0) := (blk_cell BK132.out 0).trans rfl
       have hczzc4 : wc.cell? ⟨gb132, 1, none⟩ = some (.int .i64 a3_1) := (blk_cell BK132.out 1).trans rfl
       have hfzzc3 := blk_frozen BK132.out 0
       have hfzzc4 := blk_frozen BK132.out 1
       first
        | clear hm3_3
          have hnbzc6 := NB129_130.out
          have hnczc6 := NB130_129.out
          have hczzc5 : wc.cell? ⟨gb129, 0, none⟩ = some (.int .i64 a0_0) := (blk_cell BK129.out 0).trans rfl
          have hczzc6 : wc.cell? ⟨gb129, 1, none⟩ = some (.int .i64 a0_1) := (blk_cell BK129.out 1).trans rfl
          have hfzzc5 := blk_frozen BK129.out 0
          have hfzzc6 := blk_frozen BK129.out 1
          go_wp2_with (first | (go_at_call 74; (with_reducible refine (polygon_on.calls a2_0 a2_1 a3_0 a3_1 a1_0 a1_1 t150 _ A330.out).mono ?_); rintro e wxdcb81 ⟨rfl, hb⟩; have n0_ := Aside0.mk (blk_below (g := gb129) (o := .cells #[.int .i64 a0_0, .int .i64 a0_1] 25 (0, 0)) (by (with_reducible repeat (first | refine blk_drewN ?_ _ | refine blk_drew ?_ | refine blk_alloc ?_ _)); exact BK129.out) hb); have n1_ := Aside0.mk (blk_below (g := gb130) (o := .cells #[.int .i64 a1_0, .int .i64 a1_1] 25 (0, 0)) (by (with_reducible repeat (first | refine blk_drewN ?_ _ | refine blk_drew ?_ | refine blk_alloc ?_ _)); exact BK130.out) hb); have n2_ := Aside0.mk (blk_below (g := gb131) (o := .cells #[.int .i64 a2_0, .int .i64 a2_1] 25 (0, 0)) (by (with_reducible repeat (first | refine blk_drewN ?_ _ | refine blk_drew ?_ | refine blk_alloc ?_ _)); exact BK131.out) hb); have n3_ := Aside0.mk (blk_below (g := gb132) (o := .cells #[.int .i64 a3_0, .int .i64 a3_1] 25 (0, 0)) (by (with_reducible repeat (first | refine blk_drewN ?_ _ | refine blk_drew ?_ | refine blk_alloc ?_ _)); exact BK132.out) hb); have n4_ := Aside0.mk (below_step (by repeat (first | (with_reducible first | exact HB.out | apply below_alloc | apply pw_below_drewN | apply below_drew1 | refine below_set ?_ GE129.out | refine below_set ?_ GE130.out | refine below_set ?_ GE131.out | refine below_set ?_ GE132.out) | exact HB.out)) hb); clear BK129; clear BK130; clear BK131; clear BK132; clear HB; have BK129 := n0_; have BK130 := n1_; have BK131 := n2_; have BK132 := n3_; have HB := n4_; clear n0_ n1_ n2_ n3_ n4_; (try clear hb); (try clear hb2); (try clear hk); (try clear hi)) | (go_at_call 74; (with_reducible refine (polygon_on.calls a2_0 a2_1 a3_0 a3_1 a0_0 a0_1 false _ A317.out).mono ?_); rintro e wx60351 ⟨rfl, hb⟩; have n0_ := Aside0.mk (blk_below (g := gb129) (o := .cells #[.int .i64 a0_0, .int .i64 a0_1] 25 (0, 0)) (by (with_reducible repeat (first | refine blk_drewN ?_ _ | refine blk_drew ?_ | refine blk_alloc ?_ _)); exact BK129.out) hb); have n1_ := Aside0.mk (blk_below (g := gb130) (o := .cells #[.int .i64 a1_0, .int .i64 a1_1] 25 (0, 0)) (by (with_reducible repeat (first | refine blk_drewN ?_ _ | refine blk_drew ?_ | refine blk_alloc ?_ _)); exact BK130.out) hb); have n2_ := Aside0.mk (blk_below (g := gb131) (o := .cells #[.int .i64 a2_0, .int .i64 a2_1] 25 (0, 0)) (by (with_reducible repeat (first | refine blk_drewN ?_ _ | refine blk_drew ?_ | refine blk_alloc ?_ _)); exact BK131.out) hb); have n3_ := Aside0.mk (blk_below (g := gb132) (o := .cells #[.int .i64 a3_0, .int .i64 a3_1] 25 (0, 0)) (by (with_reducible repeat (first | refine blk_drewN ?_ _ | refine blk_drew ?_ | refine blk_alloc ?_ _)); exact BK132.out) hb); have n4_ := Aside0.mk (below_step (by repeat (first | (with_reducible first | exact HB.out | apply below_alloc | apply pw_below_drewN | apply below_drew1 | refine below_set ?_ GE129.out | refine below_set ?_ GE130.out | refine below_set ?_ GE131.out | refine below_set ?_ GE132.out) | exact HB.out)) hb); clear BK129; clear BK130; clear BK131; clear BK132; clear HB; have BK129 := n0_; have BK130 := n1_; have BK131 := n2_; have BK132 := n3_; have HB := n4_; clear n0_ n1_ n2_ n3_ n4_; (try clear hb); (try clear hb2); (try clear hk); (try clear hi); have hczye48430 : wx60351.cell? ⟨gb131, 0, none⟩ = some (.int .i64 a2_0) := (blk_cell BK131.out 0).trans rfl; have hczye48431 : wx60351.cell? ⟨gb131, 1, none⟩ = some (.int .i64 a2_1) := (blk_cell BK131.out 1).trans rfl; have hfzye48432 := blk_frozen BK131.out 0; have hfzye48433 := blk_frozen BK131.out 1; have hczye48434 : wx60351.cell? ⟨gb132, 0, none⟩ = some (.int .i64 a3_0) := (blk_cell BK132.out 0).trans rfl; have hczye48435 : wx60351.cell? ⟨gb132, 1, none⟩ = some (.int .i64 a3_1) := (blk_cell BK132.out 1).trans rfl; have hfzye48436 := blk_frozen BK132.out 0; have hfzye48437 := blk_frozen BK132.out 1; have hczye48438 : wx60351.cell? ⟨gb130, 0, none⟩ = some (.int .i64 a1_0) := (blk_cell BK130.out 0).trans rfl; have hczye48439 : wx60351.cell? ⟨gb130, 1, none⟩ = some (.int .i64 a1_1) := (blk_cell BK130.out 1).trans rfl; have hfzye484310 := blk_frozen BK130.out 0; have hfzye484311 := blk_frozen BK130.out 1) | (go_at_call 74; (with_reducible refine (polygon_on.calls a2_0 a2_1 a3_0 a3_1 a0_0 a0_1 true _ A317.out).mono ?_); rintro e wx00d41 ⟨rfl, hb⟩; have n0_ := Aside0.mk (blk_below (g := gb129) (o := .cells #[.int .i64 a0_0, .int .i64 a0_1] 25 (0, 0)) (by (with_reducible repeat (first | refine blk_drewN ?_ _ | refine blk_drew ?_ | refine blk_alloc ?_ _)); exact BK129.out) hb); have n1_ := Aside0.mk (blk_below (g := gb130) (o := .cells #[.int .i64 a1_0, .int .i64 a1_1] 25 (0, 0)) (by (with_reducible repeat (first | refine blk_drewN ?_ _ | refine blk_drew ?_ | refine blk_alloc ?_ _)); exact BK130.out) hb); have n2_ := Aside0.mk (blk_below (g := gb131) (o := .cells #[.int .i64 a2_0, .int .i64 a2_1] 25 (0, 0)) (by (with_reducible repeat (first | refine blk_drewN ?_ _ | refine blk_drew ?_ | refine blk_alloc ?_ _)); exact BK131.out) hb); have n3_ := Aside0.mk (blk_below (g := gb132) (o := .cells #[.int .i64 a3_0, .int .i64 a3_1] 25 (0, 0)) (by (with_reducible repeat (first | refine blk_drewN ?_ _ | refine blk_drew ?_ | refine blk_alloc ?_ _)); exact BK132.out) hb); have n4_ := Aside0.mk (below_step (by repeat (first | (with_reducible first | exact HB.out | apply below_alloc | apply pw_below_drewN | apply below_drew1 | refine below_set ?_ GE129.out | refine below_set ?_ GE130.out | refine below_set ?_ GE131.out | refine below_set ?_ GE132.out) | exact HB.out)) hb); clear BK129; clear BK130; clear BK131; clear BK132; clear HB; have BK129 := n0_; have BK130 := n1_; have BK131 := n2_; have BK132 := n3_; have HB := n4_; clear n0_ n1_ n2_ n3_ n4_; (try clear hb); (try clear hb2); (try clear hk); (try clear hi)))
          go_ret
          exact ⟨by first | rfl | (simp [errW_none, errW_some] <;> rfl) | (simp [*, errW_none, errW_some] <;> rfl), by repeat (first | (with_reducible first | exact HB.out | apply below_alloc | apply pw_below_drewN | apply below_drew1 | refine below_set ?_ GE129.out | refine below_set ?_ GE130.out | refine below_set ?_ GE131.out | refine below_set ?_ GE132.out) | exact HB.out)⟩
        | clear hm3_4
          have hnbzc6 := NB130_129.out
          have hnczc6 := NB129_130.out
          have hczzc5 : wc.cell? ⟨gb130, 0, none⟩ = some (.int .i64 a1_0) := (blk_cell BK130.out 0).trans rfl
          have hczzc6 : wc.cell? ⟨gb130, 1, none⟩ = some (.int .i64 a1_1) := (blk_cell BK130.out 1).trans rfl
          have hfzzc5 := blk_frozen BK130.out 0
          have hfzzc6 := blk_frozen BK130.out 1
          go_wp2_with (first | (go_at_call 74; (with_reducible refine (polygon_on.calls a2_0 a2_1 a3_0 a3_1 a1_0 a1_1 t151 _ A356.out).mono ?_); rintro e wx8ce31 ⟨rfl, hb⟩; have n0_ := Aside0.mk (blk_below (g := gb129) (o := .cells #[.int .i64 a0_0, .int .i64 a0_1] 25 (0, 0)) (by (with_reducible repeat (first | refine blk_drewN ?_ _ | refine blk_drew ?_ | refine blk_alloc ?_ _)); exact BK129.out) hb); have n1_ := Aside0.mk (blk_below (g := gb130) (o := .cells #[.int .i64 a1_0, .int .i64 a1_1] 25 (0, 0)) (by (with_reducible repeat (first | refine blk_drewN ?_ _ | refine blk_drew ?_ | refine blk_alloc ?_ _)); exact BK130.out) hb); have n2_ := Aside0.mk (blk_below (g := gb131) (o := .cells #[.int .i64 a2_0, .int .i64 a2_1] 25 (0, 0)) (by (with_reducible repeat (first | refine blk_drewN ?_ _ | refine blk_drew ?_ | refine blk_alloc ?_ _)); exact BK131.out) hb); have n3_ := Aside0.mk (blk_below (g := gb132) (o := .cells #[.int .i64 a3_0, .int .i64 a3_1] 25 (0, 0)) (by (with_reducible repeat (first | refine blk_drewN ?_ _ | refine blk_drew ?_ | refine blk_alloc ?_ _)); exact BK132.out) hb); have n4_ := Aside0.mk (below_step (by repeat (first | (with_reducible first | exact HB.out | apply below_alloc | apply pw_below_drewN | apply below_drew1 | refine below_set ?_ GE129.out | refine below_set ?_ GE130.out | refine below_set ?_ GE131.out | refine below_set ?_ GE132.out) | exact HB.out)) hb); clear BK129; clear BK130; clear BK131; clear BK132; clear HB; have BK129 := n0_; have BK130 := n1_; have BK131 := n2_; have BK132 := n3_; have HB := n4_; clear n0_ n1_ n2_ n3_ n4_; (try clear hb); (try clear hb2); (try clear hk); (try clear hi)))
          go_ret
          exact ⟨by first | rfl | (simp [errW_none, errW_some] <;> rfl) | (simp [*, errW_none, errW_some] <;> rfl), by repeat (first | (with_reducible first | exact HB.out | apply below_alloc | apply pw_below_drewN | apply below_drew1 | refine below_set ?_ GE129.out | refine below_set ?_ GE130.out | refine below_set ?_ GE131.out | refine below_set ?_ GE132.out) | exact HB.out)⟩

end Go.Proofs.Yteaddpieonkboaa.PVolumeHas
