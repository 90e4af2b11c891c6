/- Made by a program of this session (wip/tools/myprint.py, over the kit's printer): that the Go functions answer as the Lean functions printed beside them. -/
import Derived.Test.YteaddpieonkboaaPPolygonTurnedx0
import Derived.Test.YteaddpieonkboaaPPolygonTurnedx1
import Derived.Test.YteaddpieonkboaaPPolygonTurnedx4
namespace Go.Proofs.Yteaddpieonkboaa.PPolygonTurned
open Go.RowKit Go.Proofs.YteaddpieonkboaaW.PrintWords Go.Proofs.YteaddpieonkboaaW.PrintLast Go.Proofs.YteaddpieonkboaaW.PrintMore
attribute [local go_sem] max2_int min2_int max_two min_two max_three min_three max_four min_four   -- for this text's walks alone
set_option linter.unusedVariables false
set_option linter.unusedSimpArgs false

/-! ### polygon_near: function 47 -/
def polygon_near.f (a0_0 : Int) (a0_1 : Int) (a1_0 : Int) (a1_1 : Int) (a2_0 : Int) (a2_1 : Int) (a3 : Int) : Option (Bool) := (plane_Sub.f a1_0 a1_1 a0_0 a0_1).bind fun bt194 => ((plane_Sub.f a2_0 a2_1 a0_0 a0_1).bind fun bt196 => ((plane_Dot.f bt194.1 bt194.2 bt196.1 bt196.2).bind fun t200 => ((plane_Dot.f bt194.1 bt194.2 bt194.1 bt194.2).bind fun t201 => (if t200 ≤ 0 then ((plane_Within.f a0_0 a0_1 a2_0 a2_1 a3).bind fun t202 => (some t202)) else (if t200 ≥ t201 then ((plane_Within.f a1_0 a1_1 a2_0 a2_1 a3).bind fun t203 => (some t203)) else ((plane_Cross.f bt194.1 bt194.2 bt196.1 bt196.2).bind fun t204 => ((polygon_atMost.f t204 a3 t201).bind fun t205 => (some t205))))))))
def polygon_near.T1 : Bool × List (List Nat × List Nat) := (true, [([], []), ([], []), ([0, 1], [0, 1]), ([], []), ([], []), ([3, 4, 2], [3, 4]), ([], []), ([], []), ([6, 2, 5, 0, 1, 2, 6, 7], [2, 6]), ([7, 5, 8, 0, 1, 2, 3, 4, 5, 6, 7, 8], [5, 7])])
def polygon_near.B1 : List Nat := [0, 0, 3, 0, 0, 31, 0, 0, 255, 511]
theorem polygon_near.tab1 : rtab .any (opsOf Try.f47 1) = polygon_near.T1 := by kernel_rfl
theorem polygon_near.bits1 : waitsOk polygon_near.T1.2 polygon_near.B1 = true := by kernel_rfl
def polygon_near.T2 : Bool × List (List Nat × List Nat) := (true, [([], []), ([], []), ([0, 1], [0, 1]), ([], []), ([], []), ([3, 4, 2], [3, 4]), ([2, 5, 0, 1, 2], [2]), ([5, 6, 0, 1, 2, 3, 4, 5, 6], [5])])
def polygon_near.B2 : List Nat := [0, 0, 3, 0, 0, 31, 63, 127]
theorem polygon_near.tab2 : rtab .any (opsOf Try.f47 2) = polygon_near.T2 := by kernel_rfl
theorem polygon_near.bits2 : waitsOk polygon_near.T2.2 polygon_near.B2 = true := by kernel_rfl
set_option maxHeartbeats 8000000 in
set_option maxRecDepth 100000 in
theorem polygon_near.calls (a0_0 : Int) (a0_1 : Int) (a1_0 : Int) (a1_1 : Int) (a2_0 : Int) (a2_1 : Int) (a3 : Int) (r : Bool) (w : World) (h : polygon_near.f a0_0 a0_1 a1_0 a1_1 a2_0 a2_1 a3 = some r) :
    Calls Try.prog 47 #[.agg #[.int .i64 a0_0, .int .i64 a0_1], .agg #[.int .i64 a1_0, .int .i64 a1_1], .agg #[.int .i64 a2_0, .int .i64 a2_1], .int .i64 a3] w fun e w' => e = .returned (.bool r) ∧ Below w.heap.size w w' := by
 have hu25 := Try.underlying25
 have HB := Aside0.mk (Below.refl w.heap.size w)
 have H : ((plane_Sub.f a1_0 a1_1 a0_0 a0_1).bind fun bt194 => ((plane_Sub.f a2_0 a2_1 a0_0 a0_1).bind fun bt196 => ((plane_Dot.f bt194.1 bt194.2 bt196.1 bt196.2).bind fun t200 => ((plane_Dot.f bt194.1 bt194.2 bt194.1 bt194.2).bind fun t201 => (if t200 ≤ 0 then ((plane_Within.f a0_0 a0_1 a2_0 a2_1 a3).bind fun t202 => (some t202)) else (if t200 ≥ t201 then ((plane_Within.f a1_0 a1_1 a2_0 a2_1 a3).bind fun t203 => (some t203)) else ((plane_Cross.f bt194.1 bt194.2 bt196.1 bt196.2).bind fun t204 => ((polygon_atMost.f t204 a3 t201).bind fun t205 => (some t205))))))))) = some r := h
 clear h
 replace H := Option.bind_eq_some_iff.mp H
 obtain ⟨⟨t194, t195⟩, A50, H⟩ := H
 replace H : ((plane_Sub.f a2_0 a2_1 a0_0 a0_1).bind fun bt196 => ((plane_Dot.f t194 t195 bt196.1 bt196.2).bind fun t200 => ((plane_Dot.f t194 t195 t194 t195).bind fun t201 => (if t200 ≤ 0 then ((plane_Within.f a0_0 a0_1 a2_0 a2_1 a3).bind fun t202 => (some t202)) else (if t200 ≥ t201 then ((plane_Within.f a1_0 a1_1 a2_0 a2_1 a3).bind fun t203 => (some t203)) else ((plane_Cross.f t194 t195 bt196.1 bt196.2).bind fun t204 => ((polygon_atMost.f t204 a3 t201).bind fun t205 => (some t205)))))))) = some r := H
 have A5 := Aside0.mk A50; clear A50
 replace H := Option.bind_eq_some_iff.mp H
 obtain ⟨⟨t196, t197⟩, A60, H⟩ := H
 replace H : ((plane_Dot.f t194 t195 t196 t197).bind fun t200 => ((plane_Dot.f t194 t195 t194 t195).bind fun t201 => (if t200 ≤ 0 then ((plane_Within.f a0_0 a0_1 a2_0 a2_1 a3).bind fun t202 => (some t202)) else (if t200 ≥ t201 then ((plane_Within.f a1_0 a1_1 a2_0 a2_1 a3).bind fun t203 => (some t203)) else ((plane_Cross.f t194 t195 t196 t197).bind fun t204 => ((polygon_atMost.f t204 a3 t201).bind fun t205 => (some t205))))))) = some r := H
 have A6 := Aside0.mk A60; clear A60
 replace H := Option.bind_eq_some_iff.mp H
 obtain ⟨t200, A70, H⟩ := H
 replace H : ((plane_Dot.f t194 t195 t194 t195).bind fun t201 => (if t200 ≤ 0 then ((plane_Within.f a0_0 a0_1 a2_0 a2_1 a3).bind fun t202 => (some t202)) else (if t200 ≥ t201 then ((plane_Within.f a1_0 a1_1 a2_0 a2_1 a3).bind fun t203 => (some t203)) else ((plane_Cross.f t194 t195 t196 t197).bind fun t204 => ((polygon_atMost.f t204 a3 t201).bind fun t205 => (some t205)))))) = some r := H
 have A7 := Aside0.mk A70; clear A70
 replace H := Option.bind_eq_some_iff.mp H
 obtain ⟨t201, A80, H⟩ := H
 replace H : (if t200 ≤ 0 then ((plane_Within.f a0_0 a0_1 a2_0 a2_1 a3).bind fun t202 => (some t202)) else (if t200 ≥ t201 then ((plane_Within.f a1_0 a1_1 a2_0 a2_1 a3).bind fun t203 => (some t203)) else ((plane_Cross.f t194 t195 t196 t197).bind fun t204 => ((polygon_atMost.f t204 a3 t201).bind fun t205 => (some t205))))) = some r := H
 have A8 := Aside0.mk A80; clear A80
 refine Or.elim (Classical.em (t200 ≤ 0)) (fun c9 => ?p2_) (fun c9 => ?n2_)
 case' p2_ =>
  rw [if_pos c9] at H
  have c9b0 : decide (t200 ≤ 0) = true := decide_eq_true c9
  clear c9
  replace H := Option.bind_eq_some_iff.mp H
  obtain ⟨t202, A100, H⟩ := H
  replace H : (some t202) = some r := H
  have A10 := Aside0.mk A100; clear A100; have hm1_0 := Aside0.mk trivial
 case' n2_ =>
  rw [if_neg c9] at H
  have c9b0 : decide (t200 ≤ 0) = false := decide_eq_false c9
  clear c9
  refine Or.elim (Classical.em (t200 ≥ t201)) (fun c38 => ?p3_) (fun c38 => ?n3_)
  case' p3_ =>
   rw [if_pos c38] at H
   have c38b0 : decide (t201 ≤ t200) = true := decide_eq_true c38
   clear c38
   replace H := Option.bind_eq_some_iff.mp H
   obtain ⟨t203, A390, H⟩ := H
   replace H : (some t203) = some r := H
   have A39 := Aside0.mk A390; clear A390; have hm1_1 := Aside0.mk trivial
  case' n3_ =>
   rw [if_neg c38] at H
   have c38b0 : decide (t201 ≤ t200) = false := decide_eq_false c38
   clear c38
   replace H := Option.bind_eq_some_iff.mp H
   obtain ⟨t204, A670, H⟩ := H
   replace H : ((polygon_atMost.f t204 a3 t201).bind fun t205 => (some t205)) = some r := H
   have A67 := Aside0.mk A670; clear A670
   replace H := Option.bind_eq_some_iff.mp H
   obtain ⟨t205, A680, H⟩ := H
   replace H : (some t205) = some r := H
   have A68 := Aside0.mk A680; clear A680; have hm1_2 := Aside0.mk trivial
 all_goals
  obtain rfl := Option.some.inj H
  go_enter Try.func47, Try.ntmps47
  try go_wp2_with (first | ((with_reducible refine gate_dst (N := 4) rfl ?_); refine box_event ?hg (N := 4) ?hd (cs := #[.int .i64 a0_0, .int .i64 a0_1]) (t := 25) ?hr ?_; (case hd => rfl); (case hg => rfl); (case hr => first | (go_simp; done) | (go_simp; rfl)); intro gb191 hg wx52f01 hbox hb; have n0_ := Aside0.mk (below_step (by repeat (first | (with_reducible first | exact HB.out | apply below_alloc | apply pw_below_drewN | apply below_drew1) | exact HB.out)) hb); have n1_ := Aside0.mk (hbox); have n2_ := Aside0.mk ((by rw [hg]; exact (below_size (by repeat (first | (with_reducible first | exact HB.out | apply below_alloc | apply pw_below_drewN | apply below_drew1) | exact HB.out))) : w.heap.size ≤ gb191)); have n3_ := Aside0.mk ((by rw [hg]; exact (below_size (by repeat (first | (with_reducible first | exact HB.out | apply below_alloc | apply pw_below_drewN | apply below_drew1) | exact HB.out))) : w.heap.size ≤ gb191)); clear HB; have HB := n0_; have BK191 := n1_; have GW191 := n2_; have GE191 := n3_; clear n0_ n1_ n2_ n3_; clear hb hbox hg) | ((with_reducible refine gate_dst (N := 5) rfl ?_); refine box_event ?hg (N := 5) ?hd (cs := #[.int .i64 a1_0, .int .i64 a1_1]) (t := 25) ?hr ?_; (case hd => rfl); (case hg => rfl); (case hr => first | (go_simp; done) | (go_simp; rfl)); intro gb192 hg wxd3bb1 hbox hb; have n0_ := Aside0.mk (blk_below (g := gb191) (o := .cells #[.int .i64 a0_0, .int .i64 a0_1] 25 (0, 0)) (by (with_reducible repeat (first | refine blk_drewN ?_ _ | refine blk_drew ?_ | refine blk_alloc ?_ _)); exact BK191.out) hb); have n1_ := Aside0.mk (below_step (by repeat (first | (with_reducible first | exact HB.out | apply below_alloc | apply pw_below_drewN | apply below_drew1 | refine below_set ?_ GE191.out) | exact HB.out)) hb); have n2_ := Aside0.mk (hbox); have n3_ := Aside0.mk ((by rw [hg]; exact (below_size (by repeat (first | (with_reducible first | exact HB.out | apply below_alloc | apply pw_below_drewN | apply below_drew1 | refine below_set ?_ GE191.out) | exact HB.out))) : w.heap.size ≤ gb192)); have n4_ := Aside0.mk ((by rw [hg]; exact (below_size (by repeat (first | (with_reducible first | exact HB.out | apply below_alloc | apply pw_below_drewN | apply below_drew1 | refine below_set ?_ GE191.out) | exact HB.out))) : w.heap.size ≤ gb192)); have n5_ := Aside0.mk ((by rw [hg]; exact Nat.ne_of_lt (blk_lt (g := gb191) (o := .cells #[.int .i64 a0_0, .int .i64 a0_1] 25 (0, 0)) (by (with_reducible repeat (first | refine blk_drewN ?_ _ | refine blk_drew ?_ | refine blk_alloc ?_ _)); exact BK191.out)) : gb191 ≠ gb192)); have n6_ := Aside0.mk ((by rw [hg]; exact Nat.ne_of_gt (blk_lt (g := gb191) (o := .cells #[.int .i64 a0_0, .int .i64 a0_1] 25 (0, 0)) (by (with_reducible repeat (first | refine blk_drewN ?_ _ | refine blk_drew ?_ | refine blk_alloc ?_ _)); exact BK191.out)) : gb192 ≠ gb191)); clear BK191; clear HB; have BK191 := n0_; have HB := n1_; have BK192 := n2_; have GW192 := n3_; have GE192 := n4_; have NB191_192 := n5_; have NB192_191 := n6_; clear n0_ n1_ n2_ n3_ n4_ n5_ n6_; clear hb hbox hg) | ((with_reducible refine gate_dst (N := 6) rfl ?_); refine box_event ?hg (N := 6) ?hd (cs := #[.int .i64 a2_0, .int .i64 a2_1]) (t := 25) ?hr ?_; (case hd => rfl); (case hg => rfl); (case hr => first | (go_simp; done) | (go_simp; rfl)); intro gb193 hg wxd6641 hbox hb; have n0_ := Aside0.mk (blk_below (g := gb191) (o := .cells #[.int .i64 a0_0, .int .i64 a0_1] 25 (0, 0)) (by (with_reducible repeat (first | refine blk_drewN ?_ _ | refine blk_drew ?_ | refine blk_alloc ?_ _)); exact BK191.out) hb); have n1_ := Aside0.mk (blk_below (g := gb192) (o := .cells #[.int .i64 a1_0, .int .i64 a1_1] 25 (0, 0)) (by (with_reducible repeat (first | refine blk_drewN ?_ _ | refine blk_drew ?_ | refine blk_alloc ?_ _)); exact BK192.out) hb); have n2_ := Aside0.mk (below_step (by repeat (first | (with_reducible first | exact HB.out | apply below_alloc | apply pw_below_drewN | apply below_drew1 | refine below_set ?_ GE191.out | refine below_set ?_ GE192.out) | exact HB.out)) hb); have n3_ := Aside0.mk (hbox); have n4_ := Aside0.mk ((by rw [hg]; exact (below_size (by repeat (first | (with_reducible first | exact HB.out | apply below_alloc | apply pw_below_drewN | apply below_drew1 | refine below_set ?_ GE191.out | refine below_set ?_ GE192.out) | exact HB.out))) : w.heap.size ≤ gb193)); have n5_ := Aside0.mk ((by rw [hg]; exact (below_size (by repeat (first | (with_reducible first | exact HB.out | apply below_alloc | apply pw_below_drewN | apply below_drew1 | refine below_set ?_ GE191.out | refine below_set ?_ GE192.out) | exact HB.out))) : w.heap.size ≤ gb193)); have n6_ := Aside0.mk ((by rw [hg]; exact Nat.ne_of_lt (blk_lt (g := gb191) (o := .cells #[.int .i64 a0_0, .int .i64 a0_1] 25 (0, 0)) (by (with_reducible repeat (first | refine blk_drewN ?_ _ | refine blk_drew ?_ | refine blk_alloc ?_ _)); exact BK191.out)) : gb191 ≠ gb193)); have n7_ := Aside0.mk ((by rw [hg]; exact Nat.ne_of_gt (blk_lt (g := gb191) (o := .cells #[.int .i64 a0_0, .int .i64 a0_1] 25 (0, 0)) (by (with_reducible repeat (first | refine blk_drewN ?_ _ | refine blk_drew ?_ | refine blk_alloc ?_ _)); exact BK191.out)) : gb193 ≠ gb191)); have n8_ := Aside0.mk ((by rw [hg]; exact Nat.ne_of_lt (blk_lt (g := gb192) (o := .cells #[.int .i64 a1_0, .int .i64 a1_1] 25 (0, 0)) (by (with_reducible repeat (first | refine blk_drewN ?_ _ | refine blk_drew ?_ | refine blk_alloc ?_ _)); exact BK192.out)) : gb192 ≠ gb193)); have n9_ := Aside0.mk ((by rw [hg]; exact Nat.ne_of_gt (blk_lt (g := gb192) (o := .cells #[.int .i64 a1_0, .int .i64 a1_1] 25 (0, 0)) (by (with_reducible repeat (first | refine blk_drewN ?_ _ | refine blk_drew ?_ | refine blk_alloc ?_ _)); exact BK192.out)) : gb193 ≠ gb192)); clear BK191; clear BK192; clear HB; have BK191 := n0_; have BK192 := n1_; have HB := n2_; have BK193 := n3_; have GW193 := n4_; have GE193 := n5_; have NB191_193 := n6_; have NB193_191 := n7_; have NB192_193 := n8_; have NB193_192 := n9_; clear n0_ n1_ n2_ n3_ n4_ n5_ n6_ n7_ n8_ n9_; clear hb hbox hg))
  have n0_ := Aside0.mk (blk_drew BK191.out)
  have n1_ := Aside0.mk (blk_drew BK192.out)
  have n2_ := Aside0.mk (blk_drew BK193.out)
  have n3_ := Aside0.mk (below_drew1 HB.out)
  clear BK191; clear BK192; clear BK193; clear HB; have BK191 := n0_; have BK192 := n1_; have BK193 := n2_; have HB := n3_; clear n0_ n1_ n2_ n3_
  refine start_ (n := 10) (S := fun w' => w'.cell? ⟨gb192, 0, none⟩ = some (.int .i64 a1_0) ∧ w'.cell? ⟨gb192, 1, none⟩ = some (.int .i64 a1_1) ∧ w'.cell? ⟨gb191, 0, none⟩ = some (.int .i64 a0_0) ∧ w'.cell? ⟨gb191, 1, none⟩ = some (.int .i64 a0_1) ∧ w'.cell? ⟨gb193, 0, none⟩ = some (.int .i64 a2_0) ∧ w'.cell? ⟨gb193, 1, none⟩ = some (.int .i64 a2_1)) (ds := []) #[false, false, false, false, false, false, false, false, false, false] (by kernel_rfl) rfl rfl ⟨(blk_cell BK192.out 0).trans rfl, (blk_cell BK192.out 1).trans rfl, (blk_cell BK191.out 0).trans rfl, (blk_cell BK191.out 1).trans rfl, (blk_cell BK193.out 0).trans rfl, (blk_cell BK193.out 1).trans rfl⟩ (fun hHeld => ?_); refine with_tabW polygon_near.tab1 polygon_near.bits1 (fun HT_ HW_ => ?_)
  generalize wxd6641.drew = wza1 at BK191 BK192 BK193 HB hHeld ⊢
  refine take_ (i := 0) (N := some 13) (v := ?_) (a' := ?_) #[true, false, false, false, false, false, false, false, false, false] rfl rfl (take_ofW HT_.out HW_.out (by kernel_rfl)) (fun _ _ _ h => h) (Or.inl ⟨by rfl, ?_⟩) hHeld ?_ ?_
  rotate_left
  · rintro w' ⟨s0, s1, s2, s3, s4, s5⟩
    go_simp; with_reducible rfl
  rotate_left
  · simp only [Act.put, List.setIfInBounds_toArray, List.set_cons_zero, List.set_cons_succ, i64_w, i32_w]; rfl
  refine take_ (i := 1) (N := some 14) (v := ?_) (a' := ?_) #[true, true, false, false, false, false, false, false, false, false] rfl rfl (take_ofW HT_.out HW_.out (by kernel_rfl)) (fun _ _ _ h => h) (Or.inl ⟨by rfl, ?_⟩) hHeld ?_ ?_
  rotate_left
  · rintro w' ⟨s0, s1, s2, s3, s4, s5⟩
    go_simp; with_reducible rfl
  rotate_left
  · simp only [Act.put, List.setIfInBounds_toArray, List.set_cons_zero, List.set_cons_succ, i64_w, i32_w]; rfl
  refine take_ (i := 3) (N := some 16) (v := ?_) (a' := ?_) #[true, true, false, true, false, false, false, false, false, false] rfl rfl (take_ofW HT_.out HW_.out (by kernel_rfl)) (fun _ _ _ h => h) (Or.inl ⟨by rfl, ?_⟩) hHeld ?_ ?_
  rotate_left
  · rintro w' ⟨s0, s1, s2, s3, s4, s5⟩
    go_simp; with_reducible rfl
  rotate_left
  · simp only [Act.put, List.setIfInBounds_toArray, List.set_cons_zero, List.set_cons_succ, i64_w, i32_w]; rfl
  refine take_ (i := 4) (N := some 17) (v := ?_) (a' := ?_) #[true, true, false, true, true, false, false, false, false, false] rfl rfl (take_ofW HT_.out HW_.out (by kernel_rfl)) (fun _ _ _ h => h) (Or.inl ⟨by rfl, ?_⟩) hHeld ?_ ?_
  rotate_left
  · rintro w' ⟨s0, s1, s2, s3, s4, s5⟩
    go_simp; with_reducible rfl
  rotate_left
  · simp only [Act.put, List.setIfInBounds_toArray, List.set_cons_zero, List.set_cons_succ, i64_w, i32_w]; rfl
  refine join_ (σ := Nat × Nat) 2 #[true, true, true, true, true, true, true, true, false, false] (fun s_ => [(15, .agg #[.int .i64 t194, .int .i64 t195]), (18, .agg #[.int .i64 t196, .int .i64 t197]), (9, .pointer (some ⟨s_.1, 0, none⟩)), (10, .pointer (some ⟨s_.2, 0, none⟩))]) (fun s_ w' => (w'.cell? ⟨gb192, 0, none⟩ = some (.int .i64 a1_0) ∧ w'.cell? ⟨gb192, 1, none⟩ = some (.int .i64 a1_1) ∧ w'.cell? ⟨gb191, 0, none⟩ = some (.int .i64 a0_0) ∧ w'.cell? ⟨gb191, 1, none⟩ = some (.int .i64 a0_1) ∧ w'.cell? ⟨gb193, 0, none⟩ = some (.int .i64 a2_0) ∧ w'.cell? ⟨gb193, 1, none⟩ = some (.int .i64 a2_1)) ∧ (w'.heap[gb191]? = some (.cells #[.int .i64 a0_0, .int .i64 a0_1] 25 (0, 0))) ∧ (w'.heap[gb192]? = some (.cells #[.int .i64 a1_0, .int .i64 a1_1] 25 (0, 0))) ∧ (w'.heap[gb193]? = some (.cells #[.int .i64 a2_0, .int .i64 a2_1] 25 (0, 0))) ∧ (w'.heap[s_.1]? = some (.cells #[.int .i64 0, .int .i64 0] 25 (0, 0))) ∧ (w'.heap[s_.2]? = some (.cells #[.int .i64 0, .int .i64 0] 25 (0, 0))) ∧ (w.heap.size ≤ s_.1) ∧ (w.heap.size ≤ s_.1) ∧ (gb191 ≠ s_.1) ∧ (s_.1 ≠ gb191) ∧ (gb192 ≠ s_.1) ∧ (s_.1 ≠ gb192) ∧ (gb193 ≠ s_.1) ∧ (s_.1 ≠ gb193) ∧ (s_.2 ≠ s_.1) ∧ (s_.1 ≠ s_.2) ∧ (w.heap.size ≤ s_.2) ∧ (w.heap.size ≤ s_.2) ∧ (gb191 ≠ s_.2) ∧ (s_.2 ≠ gb191) ∧ (gb192 ≠ s_.2) ∧ (s_.2 ≠ gb192) ∧ (gb193 ≠ s_.2) ∧ (s_.2 ≠ gb193) ∧ (Below w.heap.size w w')) ?_ ?_
  rotate_left
  · intro hJ2_5_6_7
    refine join_ (σ := Nat) 3 #[true, true, true, true, true, true, true, false, false, false] (fun s_ => [(15, .agg #[.int .i64 t194, .int .i64 t195]), (18, .agg #[.int .i64 t196, .int .i64 t197]), (9, .pointer (some ⟨s_, 0, none⟩))]) (fun s_ w' => (w'.cell? ⟨gb192, 0, none⟩ = some (.int .i64 a1_0) ∧ w'.cell? ⟨gb192, 1, none⟩ = some (.int .i64 a1_1) ∧ w'.cell? ⟨gb191, 0, none⟩ = some (.int .i64 a0_0) ∧ w'.cell? ⟨gb191, 1, none⟩ = some (.int .i64 a0_1) ∧ w'.cell? ⟨gb193, 0, none⟩ = some (.int .i64 a2_0) ∧ w'.cell? ⟨gb193, 1, none⟩ = some (.int .i64 a2_1)) ∧ (w'.heap[gb191]? = some (.cells #[.int .i64 a0_0, .int .i64 a0_1] 25 (0, 0))) ∧ (w'.heap[gb192]? = some (.cells #[.int .i64 a1_0, .int .i64 a1_1] 25 (0, 0))) ∧ (w'.heap[gb193]? = some (.cells #[.int .i64 a2_0, .int .i64 a2_1] 25 (0, 0))) ∧ (w'.heap[s_]? = some (.cells #[.int .i64 0, .int .i64 0] 25 (0, 0))) ∧ (w.heap.size ≤ s_) ∧ (w.heap.size ≤ s_) ∧ (gb191 ≠ s_) ∧ (s_ ≠ gb191) ∧ (gb192 ≠ s_) ∧ (s_ ≠ gb192) ∧ (gb193 ≠ s_) ∧ (s_ ≠ gb193) ∧ (Below w.heap.size w w')) ?_ ?_
    rotate_left
    · intro hJ2_5_6
      refine join_ (σ := Nat) 3 #[true, true, true, true, true, true, false, true, false, false] (fun s_ => [(15, .agg #[.int .i64 t194, .int .i64 t195]), (18, .agg #[.int .i64 t196, .int .i64 t197]), (10, .pointer (some ⟨s_, 0, none⟩))]) (fun s_ w' => (w'.cell? ⟨gb192, 0, none⟩ = some (.int .i64 a1_0) ∧ w'.cell? ⟨gb192, 1, none⟩ = some (.int .i64 a1_1) ∧ w'.cell? ⟨gb191, 0, none⟩ = some (.int .i64 a0_0) ∧ w'.cell? ⟨gb191, 1, none⟩ = some (.int .i64 a0_1) ∧ w'.cell? ⟨gb193, 0, none⟩ = some (.int .i64 a2_0) ∧ w'.cell? ⟨gb193, 1, none⟩ = some (.int .i64 a2_1)) ∧ (w'.heap[gb191]? = some (.cells #[.int .i64 a0_0, .int .i64 a0_1] 25 (0, 0))) ∧ (w'.heap[gb192]? = some (.cells #[.int .i64 a1_0, .int .i64 a1_1] 25 (0, 0))) ∧ (w'.heap[gb193]? = some (.cells #[.int .i64 a2_0, .int .i64 a2_1] 25 (0, 0))) ∧ (w'.heap[s_]? = some (.cells #[.int .i64 0, .int .i64 0] 25 (0, 0))) ∧ (w.heap.size ≤ s_) ∧ (w.heap.size ≤ s_) ∧ (gb191 ≠ s_) ∧ (s_ ≠ gb191) ∧ (gb192 ≠ s_) ∧ (s_ ≠ gb192) ∧ (gb193 ≠ s_) ∧ (s_ ≠ gb193) ∧ (Below w.heap.size w w')) ?_ ?_
      rotate_left
      · intro hJ2_5_7
        refine join_ (σ := Nat × Nat) 3 #[true, true, true, true, true, false, true, true, false, false] (fun s_ => [(15, .agg #[.int .i64 t194, .int .i64 t195]), (9, .pointer (some ⟨s_.1, 0, none⟩)), (10, .pointer (some ⟨s_.2, 0, none⟩))]) (fun s_ w' => (w'.cell? ⟨gb192, 0, none⟩ = some (.int .i64 a1_0) ∧ w'.cell? ⟨gb192, 1, none⟩ = some (.int .i64 a1_1) ∧ w'.cell? ⟨gb191, 0, none⟩ = some (.int .i64 a0_0) ∧ w'.cell? ⟨gb191, 1, none⟩ = some (.int .i64 a0_1) ∧ w'.cell? ⟨gb193, 0, none⟩ = some (.int .i64 a2_0) ∧ w'.cell? ⟨gb193, 1, none⟩ = some (.int .i64 a2_1)) ∧ (w'.heap[gb191]? = some (.cells #[.int .i64 a0_0, .int .i64 a0_1] 25 (0, 0))) ∧ (w'.heap[gb192]? = some (.cells #[.int .i64 a1_0, .int .i64 a1_1] 25 (0, 0))) ∧ (w'.heap[gb193]? = some (.cells #[.int .i64 a2_0, .int .i64 a2_1] 25 (0, 0))) ∧ (w'.heap[s_.1]? = some (.cells #[.int .i64 0, .int .i64 0] 25 (0, 0))) ∧ (w'.heap[s_.2]? = some (.cells #[.int .i64 0, .int .i64 0] 25 (0, 0))) ∧ (w.heap.size ≤ s_.1) ∧ (w.heap.size ≤ s_.1) ∧ (gb191 ≠ s_.1) ∧ (s_.1 ≠ gb191) ∧ (gb192 ≠ s_.1) ∧ (s_.1 ≠ gb192) ∧ (gb193 ≠ s_.1) ∧ (s_.1 ≠ gb193) ∧ (s_.2 ≠ s_.1) ∧ (s_.1 ≠ s_.2) ∧ (w.heap.size ≤ s_.2) ∧ (w.heap.size ≤ s_.2) ∧ (gb191 ≠ s_.2) ∧ (s_.2 ≠ gb191) ∧ (gb192 ≠ s_.2) ∧ (s_.2 ≠ gb192) ∧ (gb193 ≠ s_.2) ∧ (s_.2 ≠ gb193) ∧ (Below w.heap.size w w')) ?_ ?_
        rotate_left
        · intro hJ2_6_7
          refine join_ (σ := Unit) 4 #[true, true, true, true, true, true, false, false, false, false] (fun s_ => [(15, .agg #[.int .i64 t194, .int .i64 t195]), (18, .agg #[.int .i64 t196, .int .i64 t197])]) (fun s_ w' => (w'.cell? ⟨gb192, 0, none⟩ = some (.int .i64 a1_0) ∧ w'.cell? ⟨gb192, 1, none⟩ = some (.int .i64 a1_1) ∧ w'.cell? ⟨gb191, 0, none⟩ = some (.int .i64 a0_0) ∧ w'.cell? ⟨gb191, 1, none⟩ = some (.int .i64 a0_1) ∧ w'.cell? ⟨gb193, 0, none⟩ = some (.int .i64 a2_0) ∧ w'.cell? ⟨gb193, 1, none⟩ = some (.int .i64 a2_1)) ∧ (w'.heap[gb191]? = some (.cells #[.int .i64 a0_0, .int .i64 a0_1] 25 (0, 0))) ∧ (w'.heap[gb192]? = some (.cells #[.int .i64 a1_0, .int .i64 a1_1] 25 (0, 0))) ∧ (w'.heap[gb193]? = some (.cells #[.int .i64 a2_0, .int .i64 a2_1] 25 (0, 0))) ∧ (Below w.heap.size w w')) ?_ ?_
          rotate_left
          · intro hJ2_5
            refine join_ (σ := Nat) 4 #[true, true, true, true, true, false, true, false, false, false] (fun s_ => [(15, .agg #[.int .i64 t194, .int .i64 t195]), (9, .pointer (some ⟨s_, 0, none⟩))]) (fun s_ w' => (w'.cell? ⟨gb192, 0, none⟩ = some (.int .i64 a1_0) ∧ w'.cell? ⟨gb192, 1, none⟩ = some (.int .i64 a1_1) ∧ w'.cell? ⟨gb191, 0, none⟩ = some (.int .i64 a0_0) ∧ w'.cell? ⟨gb191, 1, none⟩ = some (.int .i64 a0_1) ∧ w'.cell? ⟨gb193, 0, none⟩ = some (.int .i64 a2_0) ∧ w'.cell? ⟨gb193, 1, none⟩ = some (.int .i64 a2_1)) ∧ (w'.heap[gb191]? = some (.cells #[.int .i64 a0_0, .int .i64 a0_1] 25 (0, 0))) ∧ (w'.heap[gb192]? = some (.cells #[.int .i64 a1_0, .int .i64 a1_1] 25 (0, 0))) ∧ (w'.heap[gb193]? = some (.cells #[.int .i64 a2_0, .int .i64 a2_1] 25 (0, 0))) ∧ (w'.heap[s_]? = some (.cells #[.int .i64 0, .int .i64 0] 25 (0, 0))) ∧ (w.heap.size ≤ s_) ∧ (w.heap.size ≤ s_) ∧ (gb191 ≠ s_) ∧ (s_ ≠ gb191) ∧ (gb192 ≠ s_) ∧ (s_ ≠ gb192) ∧ (gb193 ≠ s_) ∧ (s_ ≠ gb193) ∧ (Below w.heap.size w w')) ?_ ?_
            rotate_left
            · intro hJ2_6
              refine join_ (σ := Nat) 4 #[true, true, true, true, true, false, false, true, false, false] (fun s_ => [(15, .agg #[.int .i64 t194, .int .i64 t195]), (10, .pointer (some ⟨s_, 0, none⟩))]) (fun s_ w' => (w'.cell? ⟨gb192, 0, none⟩ = some (.int .i64 a1_0) ∧ w'.cell? ⟨gb192, 1, none⟩ = some (.int .i64 a1_1) ∧ w'.cell? ⟨gb191, 0, none⟩ = some (.int .i64 a0_0) ∧ w'.cell? ⟨gb191, 1, none⟩ = some (.int .i64 a0_1) ∧ w'.cell? ⟨gb193, 0, none⟩ = some (.int .i64 a2_0) ∧ w'.cell? ⟨gb193, 1, none⟩ = some (.int .i64 a2_1)) ∧ (w'.heap[gb191]? = some (.cells #[.int .i64 a0_0, .int .i64 a0_1] 25 (0, 0))) ∧ (w'.heap[gb192]? = some (.cells #[.int .i64 a1_0, .int .i64 a1_1] 25 (0, 0))) ∧ (w'.heap[gb193]? = some (.cells #[.int .i64 a2_0, .int .i64 a2_1] 25 (0, 0))) ∧ (w'.heap[s_]? = some (.cells #[.int .i64 0, .int .i64 0] 25 (0, 0))) ∧ (w.heap.size ≤ s_) ∧ (w.heap.size ≤ s_) ∧ (gb191 ≠ s_) ∧ (s_ ≠ gb191) ∧ (gb192 ≠ s_) ∧ (s_ ≠ gb192) ∧ (gb193 ≠ s_) ∧ (s_ ≠ gb193) ∧ (Below w.heap.size w w')) ?_ ?_
              rotate_left
              · intro hJ2_7
                refine join_ (σ := Nat × Nat) 4 #[true, true, false, true, true, false, true, true, false, false] (fun s_ => [(9, .pointer (some ⟨s_.1, 0, none⟩)), (10, .pointer (some ⟨s_.2, 0, none⟩))]) (fun s_ w' => (w'.cell? ⟨gb192, 0, none⟩ = some (.int .i64 a1_0) ∧ w'.cell? ⟨gb192, 1, none⟩ = some (.int .i64 a1_1) ∧ w'.cell? ⟨gb191, 0, none⟩ = some (.int .i64 a0_0) ∧ w'.cell? ⟨gb191, 1, none⟩ = some (.int .i64 a0_1) ∧ w'.cell? ⟨gb193, 0, none⟩ = some (.int .i64 a2_0) ∧ w'.cell? ⟨gb193, 1, none⟩ = some (.int .i64 a2_1)) ∧ (w'.heap[gb191]? = some (.cells #[.int .i64 a0_0, .int .i64 a0_1] 25 (0, 0))) ∧ (w'.heap[gb192]? = some (.cells #[.int .i64 a1_0, .int .i64 a1_1] 25 (0, 0))) ∧ (w'.heap[gb193]? = some (.cells #[.int .i64 a2_0, .int .i64 a2_1] 25 (0, 0))) ∧ (w'.heap[s_.1]? = some (.cells #[.int .i64 0, .int .i64 0] 25 (0, 0))) ∧ (w'.heap[s_.2]? = some (.cells #[.int .i64 0, .int .i64 0] 25 (0, 0))) ∧ (w.heap.size ≤ s_.1) ∧ (w.heap.size ≤ s_.1) ∧ (gb191 ≠ s_.1) ∧ (s_.1 ≠ gb191) ∧ (gb192 ≠ s_.1) ∧ (s_.1 ≠ gb192) ∧ (gb193 ≠ s_.1) ∧ (s_.1 ≠ gb193) ∧ (s_.2 ≠ s_.1) ∧ (s_.1 ≠ s_.2) ∧ (w.heap.size ≤ s_.2) ∧ (w.heap.size ≤ s_.2) ∧ (gb191 ≠ s_.2) ∧ (s_.2 ≠ gb191) ∧ (gb192 ≠ s_.2) ∧ (s_.2 ≠ gb192) ∧ (gb193 ≠ s_.2) ∧ (s_.2 ≠ gb193) ∧ (Below w.heap.size w w')) ?_ ?_
                rotate_left
                · intro hJ6_7
                  refine join_ (σ := Unit) 5 #[true, true, true, true, true, false, false, false, false, false] (fun s_ => [(15, .agg #[.int .i64 t194, .int .i64 t195])]) (fun s_ w' => (w'.cell? ⟨gb192, 0, none⟩ = some (.int .i64 a1_0) ∧ w'.cell? ⟨gb192, 1, none⟩ = some (.int .i64 a1_1) ∧ w'.cell? ⟨gb191, 0, none⟩ = some (.int .i64 a0_0) ∧ w'.cell? ⟨gb191, 1, none⟩ = some (.int .i64 a0_1) ∧ w'.cell? ⟨gb193, 0, none⟩ = some (.int .i64 a2_0) ∧ w'.cell? ⟨gb193, 1, none⟩ = some (.int .i64 a2_1)) ∧ (w'.heap[gb191]? = some (.cells #[.int .i64 a0_0, .int .i64 a0_1] 25 (0, 0))) ∧ (w'.heap[gb192]? = some (.cells #[.int .i64 a1_0, .int .i64 a1_1] 25 (0, 0))) ∧ (w'.heap[gb193]? = some (.cells #[.int .i64 a2_0, .int .i64 a2_1] 25 (0, 0))) ∧ (Below w.heap.size w w')) ?_ ?_
                  rotate_left
                  · intro hJ2
                    refine join_ (σ := Nat) 5 #[true, true, false, true, true, false, true, false, false, false] (fun s_ => [(9, .pointer (some ⟨s_, 0, none⟩))]) (fun s_ w' => (w'.cell? ⟨gb192, 0, none⟩ = some (.int .i64 a1_0) ∧ w'.cell? ⟨gb192, 1, none⟩ = some (.int .i64 a1_1) ∧ w'.cell? ⟨gb191, 0, none⟩ = some (.int .i64 a0_0) ∧ w'.cell? ⟨gb191, 1, none⟩ = some (.int .i64 a0_1) ∧ w'.cell? ⟨gb193, 0, none⟩ = some (.int .i64 a2_0) ∧ w'.cell? ⟨gb193, 1, none⟩ = some (.int .i64 a2_1)) ∧ (w'.heap[gb191]? = some (.cells #[.int .i64 a0_0, .int .i64 a0_1] 25 (0, 0))) ∧ (w'.heap[gb192]? = some (.cells #[.int .i64 a1_0, .int .i64 a1_1] 25 (0, 0))) ∧ (w'.heap[gb193]? = some (.cells #[.int .i64 a2_0, .int .i64 a2_1] 25 (0, 0))) ∧ (w'.heap[s_]? = some (.cells #[.int .i64 0, .int .i64 0] 25 (0, 0))) ∧ (w.heap.size ≤ s_) ∧ (w.heap.size ≤ s_) ∧ (gb191 ≠ s_) ∧ (s_ ≠ gb191) ∧ (gb192 ≠ s_) ∧ (s_ ≠ gb192) ∧ (gb193 ≠ s_) ∧ (s_ ≠ gb193) ∧ (Below w.heap.size w w')) ?_ ?_
                    rotate_left
                    · intro hJ6
                      refine join_ (σ := Nat) 5 #[true, true, false, true, true, false, false, true, false, false] (fun s_ => [(10, .pointer (some ⟨s_, 0, none⟩))]) (fun s_ w' => (w'.cell? ⟨gb192, 0, none⟩ = some (.int .i64 a1_0) ∧ w'.cell? ⟨gb192, 1, none⟩ = some (.int .i64 a1_1) ∧ w'.cell? ⟨gb191, 0, none⟩ = some (.int .i64 a0_0) ∧ w'.cell? ⟨gb191, 1, none⟩ = some (.int .i64 a0_1) ∧ w'.cell? ⟨gb193, 0, none⟩ = some (.int .i64 a2_0) ∧ w'.cell? ⟨gb193, 1, none⟩ = some (.int .i64 a2_1)) ∧ (w'.heap[gb191]? = some (.cells #[.int .i64 a0_0, .int .i64 a0_1] 25 (0, 0))) ∧ (w'.heap[gb192]? = some (.cells #[.int .i64 a1_0, .int .i64 a1_1] 25 (0, 0))) ∧ (w'.heap[gb193]? = some (.cells #[.int .i64 a2_0, .int .i64 a2_1] 25 (0, 0))) ∧ (w'.heap[s_]? = some (.cells #[.int .i64 0, .int .i64 0] 25 (0, 0))) ∧ (w.heap.size ≤ s_) ∧ (w.heap.size ≤ s_) ∧ (gb191 ≠ s_) ∧ (s_ ≠ gb191) ∧ (gb192 ≠ s_) ∧ (s_ ≠ gb192) ∧ (gb193 ≠ s_) ∧ (s_ ≠ gb193) ∧ (Below w.heap.size w w')) ?_ ?_
                      rotate_left
                      · intro hJ7
                        refine three_ (i := 2) (j := 6) (k := 7) (Ni := some 15) (Nj := some 9) (Nk := some 10) #[true, true, true, true, true, false, false, false, false, false] #[true, true, false, true, true, false, true, false, false, false] #[true, true, false, true, true, false, false, true, false, false] rfl rfl rfl rfl rfl rfl (three_of HT_.out (by kernel_rfl)) (by decide) (by decide) (by decide) (fun K hK => ?_) (fun K hK => ?_) (fun K hK => ?_)
                        · skip
                          refine goes_ Try.func53 (by kernel_rfl) rfl #[.agg #[.int .i64 a1_0, .int .i64 a1_1], .agg #[.int .i64 a0_0, .int .i64 a0_1]] (by rfl) rfl rfl (by (try simp only [List.map_toArray, List.map_cons, List.map_nil]); first | done | rfl | (simp only [List.length_drop, List.length_take]; rfl)) ?_
                          with_reducible refine (plane_Sub.calls a1_0 a1_1 a0_0 a0_1 t194 t195 _ A5.out).mono ?_
                          rintro e wza2 ⟨rfl, hb⟩
                          refine ⟨_, rfl, ?_⟩
                          have n0_ := Aside0.mk (blk_below (g := gb191) (o := .cells #[.int .i64 a0_0, .int .i64 a0_1] 25 (0, 0)) (by (with_reducible repeat (first | refine blk_drewN ?_ _ | refine blk_drew ?_ | refine blk_alloc ?_ _)); exact BK191.out) hb)
                          have n1_ := Aside0.mk (blk_below (g := gb192) (o := .cells #[.int .i64 a1_0, .int .i64 a1_1] 25 (0, 0)) (by (with_reducible repeat (first | refine blk_drewN ?_ _ | refine blk_drew ?_ | refine blk_alloc ?_ _)); exact BK192.out) hb)
                          have n2_ := Aside0.mk (blk_below (g := gb193) (o := .cells #[.int .i64 a2_0, .int .i64 a2_1] 25 (0, 0)) (by (with_reducible repeat (first | refine blk_drewN ?_ _ | refine blk_drew ?_ | refine blk_alloc ?_ _)); exact BK193.out) hb)
                          have n3_ := Aside0.mk (below_step (by repeat (first | (with_reducible first | exact HB.out | apply below_alloc | apply pw_below_drewN | apply below_drew1 | refine below_set ?_ GE191.out | refine below_set ?_ GE192.out | refine below_set ?_ GE193.out) | exact HB.out)) hb)
                          clear BK191; clear BK192; clear BK193; clear HB; have BK191 := n0_; have BK192 := n1_; have BK193 := n2_; have HB := n3_; clear n0_ n1_ n2_ n3_
                          (try clear hb)
                          (try clear hb2)
                          (try clear hk)
                          (try clear hi)
                          refine hK.out _ _ ⟨(blk_cell BK192.out 0).trans rfl, (blk_cell BK192.out 1).trans rfl, (blk_cell BK191.out 0).trans rfl, (blk_cell BK191.out 1).trans rfl, (blk_cell BK193.out 0).trans rfl, (blk_cell BK193.out 1).trans rfl⟩ (fun hHeld => ?_)
                          clear hK K
                          refine norm_ (a' := ?_) ?_ ?_
                          rotate_left
                          · show Act.put _ (some 15) _ = _
                            simp only [Act.put, List.setIfInBounds_toArray, List.set_cons_zero, List.set_cons_succ, i64_w, i32_w]; rfl
                          exact norm_ (by first | (simp only [putAll, Act.put, List.setIfInBounds_toArray, List.set_cons_zero, List.set_cons_succ]; done) | (simp only [putAll, Act.put, List.setIfInBounds_toArray, List.set_cons_zero, List.set_cons_succ]; rfl)) (hJ2 () _ ⟨hHeld, (by (with_reducible repeat (first | refine blk_drewN ?_ _ | refine blk_drew ?_ | refine blk_alloc ?_ _)); exact BK191.out), (by (with_reducible repeat (first | refine blk_drewN ?_ _ | refine blk_drew ?_ | refine blk_alloc ?_ _)); exact BK192.out), (by (with_reducible repeat (first | refine blk_drewN ?_ _ | refine blk_drew ?_ | refine blk_alloc ?_ _)); exact BK193.out), (by repeat (first | (with_reducible first | exact HB.out | apply below_alloc | apply pw_below_drewN | apply below_drew1 | refine below_set ?_ GE191.out | refine below_set ?_ GE192.out | refine below_set ?_ GE193.out) | exact HB.out))⟩)
                        · skip
                          refine box_step ?hg (N := 9) ?hd (cs := #[.int .i64 0, .int .i64 0]) (t := 25) ?hr ?_; (case hd => rfl); (case hg => rfl); (case hr => first | (go_simp; done) | (go_simp; rfl))
                          intro gb198 hg wza2 hbox hb
                          have n0_ := Aside0.mk (blk_below (g := gb191) (o := .cells #[.int .i64 a0_0, .int .i64 a0_1] 25 (0, 0)) (by (with_reducible repeat (first | refine blk_drewN ?_ _ | refine blk_drew ?_ | refine blk_alloc ?_ _)); exact BK191.out) hb)
                          have n1_ := Aside0.mk (blk_below (g := gb192) (o := .cells #[.int .i64 a1_0, .int .i64 a1_1] 25 (0, 0)) (by (with_reducible repeat (first | refine blk_drewN ?_ _ | refine blk_drew ?_ | refine blk_alloc ?_ _)); exact BK192.out) hb)
                          have n2_ := Aside0.mk (blk_below (g := gb193) (o := .cells #[.int .i64 a2_0, .int .i64 a2_1] 25 (0, 0)) (by (with_reducible repeat (first | refine blk_drewN ?_ _ | refine blk_drew ?_ | refine blk_alloc ?_ _)); exact BK193.out) hb)
                          have n3_ := Aside0.mk (below_step (by repeat (first | (with_reducible first | exact HB.out | apply below_alloc | apply pw_below_drewN | apply below_drew1 | refine below_set ?_ GE191.out | refine below_set ?_ GE192.out | refine below_set ?_ GE193.out) | exact HB.out)) hb)
                          have n4_ := Aside0.mk (hbox)
                          have n5_ := Aside0.mk ((by rw [hg]; exact (below_size (by repeat (first | (with_reducible first | exact HB.out | apply below_alloc | apply pw_below_drewN | apply below_drew1 | refine below_set ?_ GE191.out | refine below_set ?_ GE192.out | refine below_set ?_ GE193.out) | exact HB.out))) : w.heap.size ≤ gb198))
                          have n6_ := Aside0.mk ((by rw [hg]; exact (below_size (by repeat (first | (with_reducible first | exact HB.out | apply below_alloc | apply pw_below_drewN | apply below_drew1 | refine below_set ?_ GE191.out | refine below_set ?_ GE192.out | refine below_set ?_ GE193.out) | exact HB.out))) : w.heap.size ≤ gb198))
                          have n7_ := Aside0.mk ((by rw [hg]; exact Nat.ne_of_lt (blk_lt (g := gb191) (o := .cells #[.int .i64 a0_0, .int .i64 a0_1] 25 (0, 0)) (by (with_reducible repeat (first | refine blk_drewN ?_ _ | refine blk_drew ?_ | refine blk_alloc ?_ _)); exact BK191.out)) : gb191 ≠ gb198))
                          have n8_ := Aside0.mk ((by rw [hg]; exact Nat.ne_of_gt (blk_lt (g := gb191) (o := .cells #[.int .i64 a0_0, .int .i64 a0_1] 25 (0, 0)) (by (with_reducible repeat (first | refine blk_drewN ?_ _ | refine blk_drew ?_ | refine blk_alloc ?_ _)); exact BK191.out)) : gb198 ≠ gb191))
                          have n9_ := Aside0.mk ((by rw [hg]; exact Nat.ne_of_lt (blk_lt (g := gb192) (o := .cells #[.int .i64 a1_0, .int .i64 a1_1] 25 (0, 0)) (by (with_reducible repeat (first | refine blk_drewN ?_ _ | refine blk_drew ?_ | refine blk_alloc ?_ _)); exact BK192.out)) : gb192 ≠ gb198))
                          have n10_ := Aside0.mk ((by rw [hg]; exact Nat.ne_of_gt (blk_lt (g := gb192) (o := .cells #[.int .i64 a1_0, .int .i64 a1_1] 25 (0, 0)) (by (with_reducible repeat (first | refine blk_drewN ?_ _ | refine blk_drew ?_ | refine blk_alloc ?_ _)); exact BK192.out)) : gb198 ≠ gb192))
                          have n11_ := Aside0.mk ((by rw [hg]; exact Nat.ne_of_lt (blk_lt (g := gb193) (o := .cells #[.int .i64 a2_0, .int .i64 a2_1] 25 (0, 0)) (by (with_reducible repeat (first | refine blk_drewN ?_ _ | refine blk_drew ?_ | refine blk_alloc ?_ _)); exact BK193.out)) : gb193 ≠ gb198))
                          have n12_ := Aside0.mk ((by rw [hg]; exact Nat.ne_of_gt (blk_lt (g := gb193) (o := .cells #[.int .i64 a2_0, .int .i64 a2_1] 25 (0, 0)) (by (with_reducible repeat (first | refine blk_drewN ?_ _ | refine blk_drew ?_ | refine blk_alloc ?_ _)); exact BK193.out)) : gb198 ≠ gb193))
                          clear BK191; clear BK192; clear BK193; clear HB; have BK191 := n0_; have BK192 := n1_; have BK193 := n2_; have HB := n3_; have BK198 := n4_; have GW198 := n5_; have GE198 := n6_; have NB191_198 := n7_; have NB198_191 := n8_; have NB192_198 := n9_; have NB198_192 := n10_; have NB193_198 := n11_; have NB198_193 := n12_; clear n0_ n1_ n2_ n3_ n4_ n5_ n6_ n7_ n8_ n9_ n10_ n11_ n12_; clear hb hbox hg
                          refine hK.out _ _ ⟨(blk_cell BK192.out 0).trans rfl, (blk_cell BK192.out 1).trans rfl, (blk_cell BK191.out 0).trans rfl, (blk_cell BK191.out 1).trans rfl, (blk_cell BK193.out 0).trans rfl, (blk_cell BK193.out 1).trans rfl⟩ (fun hHeld => ?_)
                          clear hK K
                          refine norm_ (a' := ?_) ?_ ?_
                          rotate_left
                          · show Act.put _ (some 9) _ = _
                            simp only [Act.put, List.setIfInBounds_toArray, List.set_cons_zero, List.set_cons_succ, i64_w, i32_w]; rfl
                          exact norm_ (by first | (simp only [putAll, Act.put, List.setIfInBounds_toArray, List.set_cons_zero, List.set_cons_succ]; done) | (simp only [putAll, Act.put, List.setIfInBounds_toArray, List.set_cons_zero, List.set_cons_succ]; rfl)) (hJ6 (gb198) _ ⟨hHeld, (by (with_reducible repeat (first | refine blk_drewN ?_ _ | refine blk_drew ?_ | refine blk_alloc ?_ _)); exact BK191.out), (by (with_reducible repeat (first | refine blk_drewN ?_ _ | refine blk_drew ?_ | refine blk_alloc ?_ _)); exact BK192.out), (by (with_reducible repeat (first | refine blk_drewN ?_ _ | refine blk_drew ?_ | refine blk_alloc ?_ _)); exact BK193.out), (by (with_reducible repeat (first | refine blk_drewN ?_ _ | refine blk_drew ?_ | refine blk_alloc ?_ _)); exact BK198.out), GW198.out, GE198.out, NB191_198.out, NB198_191.out, NB192_198.out, NB198_192.out, NB193_198.out, NB198_193.out, (by repeat (first | (with_reducible first | exact HB.out | apply below_alloc | apply pw_below_drewN | apply below_drew1 | refine below_set ?_ GE191.out | refine below_set ?_ GE192.out | refine below_set ?_ GE193.out | refine below_set ?_ GE198.out) | exact HB.out))⟩)
                        · skip
                          refine box_step ?hg (N := 10) ?hd (cs := #[.int .i64 0, .int .i64 0]) (t := 25) ?hr ?_; (case hd => rfl); (case hg => rfl); (case hr => first | (go_simp; done) | (go_simp; rfl))
                          intro gb199 hg wza2 hbox hb
                          have n0_ := Aside0.mk (blk_below (g := gb191) (o := .cells #[.int .i64 a0_0, .int .i64 a0_1] 25 (0, 0)) (by (with_reducible repeat (first | refine blk_drewN ?_ _ | refine blk_drew ?_ | refine blk_alloc ?_ _)); exact BK191.out) hb)
                          have n1_ := Aside0.mk (blk_below (g := gb192) (o := .cells #[.int .i64 a1_0, .int .i64 a1_1] 25 (0, 0)) (by (with_reducible repeat (first | refine blk_drewN ?_ _ | refine blk_drew ?_ | refine blk_alloc ?_ _)); exact BK192.out) hb)
                          have n2_ := Aside0.mk (blk_below (g := gb193) (o := .cells #[.int .i64 a2_0, .int .i64 a2_1] 25 (0, 0)) (by (with_reducible repeat (first | refine blk_drewN ?_ _ | refine blk_drew ?_ | refine blk_alloc ?_ _)); exact BK193.out) hb)
                          have n3_ := Aside0.mk (below_step (by repeat (first | (with_reducible first | exact HB.out | apply below_alloc | apply pw_below_drewN | apply below_drew1 | refine below_set ?_ GE191.out | refine below_set ?_ GE192.out | refine below_set ?_ GE193.out) | exact HB.out)) hb)
                          have n4_ := Aside0.mk (hbox)
                          have n5_ := Aside0.mk ((by rw [hg]; exact (below_size (by repeat (first | (with_reducible first | exact HB.out | apply below_alloc | apply pw_below_drewN | apply below_drew1 | refine below_set ?_ GE191.out | refine below_set ?_ GE192.out | refine below_set ?_ GE193.out) | exact HB.out))) : w.heap.size ≤ gb199))
                          have n6_ := Aside0.mk ((by rw [hg]; exact (below_size (by repeat (first | (with_reducible first | exact HB.out | apply below_alloc | apply pw_below_drewN | apply below_drew1 | refine below_set ?_ GE191.out | refine below_set ?_ GE192.out | refine below_set ?_ GE193.out) | exact HB.out))) : w.heap.size ≤ gb199))
                          have n7_ := Aside0.mk ((by rw [hg]; exact Nat.ne_of_lt (blk_lt (g := gb191) (o := .cells #[.int .i64 a0_0, .int .i64 a0_1] 25 (0, 0)) (by (with_reducible repeat (first | refine blk_drewN ?_ _ | refine blk_drew ?_ | refine blk_alloc ?_ _)); exact BK191.out)) : gb191 ≠ gb199))
                          have n8_ := Aside0.mk ((by rw [hg]; exact Nat.ne_of_gt (blk_lt (g := gb191) (o := .cells #[.int .i64 a0_0, .int .i64 a0_1] 25 (0, 0)) (by (with_reducible repeat (first | refine blk_drewN ?_ _ | refine blk_drew ?_ | refine blk_alloc ?_ _)); exact BK191.out)) : gb199 ≠ gb191))
                          have n9_ := Aside0.mk ((by rw [hg]; exact Nat.ne_of_lt (blk_lt (g := gb192) (o := .cells #[.int .i64 a1_0, .int .i64 a1_1] 25 (0, 0)) (by (with_reducible repeat (first | refine blk_drewN ?_ _ | refine blk_drew ?_ | refine blk_alloc ?_ _)); exact BK192.out)) : gb192 ≠ gb199))
                          have n10_ := Aside0.mk ((by rw [hg]; exact Nat.ne_of_gt (blk_lt (g := gb192) (o := .cells #[.int .i64 a1_0, .int .i64 a1_1] 25 (0, 0)) (by (with_reducible repeat (first | refine blk_drewN ?_ _ | refine blk_drew ?_ | refine blk_alloc ?_ _)); exact BK192.out)) : gb199 ≠ gb192))
                          have n11_ := Aside0.mk ((by rw [hg]; exact Nat.ne_of_lt (blk_lt (g := gb193) (o := .cells #[.int .i64 a2_0, .int .i64 a2_1] 25 (0, 0)) (by (with_reducible repeat (first | refine blk_drewN ?_ _ | refine blk_drew ?_ | refine blk_alloc ?_ _)); exact BK193.out)) : gb193 ≠ gb199))
                          have n12_ := Aside0.mk ((by rw [hg]; exact Nat.ne_of_gt (blk_lt (g := gb193) (o := .cells #[.int .i64 a2_0, .int .i64 a2_1] 25 (0, 0)) (by (with_reducible repeat (first | refine blk_drewN ?_ _ | refine blk_drew ?_ | refine blk_alloc ?_ _)); exact BK193.out)) : gb199 ≠ gb193))
                          clear BK191; clear BK192; clear BK193; clear HB; have BK191 := n0_; have BK192 := n1_; have BK193 := n2_; have HB := n3_; have BK199 := n4_; have GW199 := n5_; have GE199 := n6_; have NB191_199 := n7_; have NB199_191 := n8_; have NB192_199 := n9_; have NB199_192 := n10_; have NB193_199 := n11_; have NB199_193 := n12_; clear n0_ n1_ n2_ n3_ n4_ n5_ n6_ n7_ n8_ n9_ n10_ n11_ n12_; clear hb hbox hg
                          refine hK.out _ _ ⟨(blk_cell BK192.out 0).trans rfl, (blk_cell BK192.out 1).trans rfl, (blk_cell BK191.out 0).trans rfl, (blk_cell BK191.out 1).trans rfl, (blk_cell BK193.out 0).trans rfl, (blk_cell BK193.out 1).trans rfl⟩ (fun hHeld => ?_)
                          clear hK K
                          refine norm_ (a' := ?_) ?_ ?_
                          rotate_left
                          · show Act.put _ (some 10) _ = _
                            simp only [Act.put, List.setIfInBounds_toArray, List.set_cons_zero, List.set_cons_succ, i64_w, i32_w]; rfl
                          exact norm_ (by first | (simp only [putAll, Act.put, List.setIfInBounds_toArray, List.set_cons_zero, List.set_cons_succ]; done) | (simp only [putAll, Act.put, List.setIfInBounds_toArray, List.set_cons_zero, List.set_cons_succ]; rfl)) (hJ7 (gb199) _ ⟨hHeld, (by (with_reducible repeat (first | refine blk_drewN ?_ _ | refine blk_drew ?_ | refine blk_alloc ?_ _)); exact BK191.out), (by (with_reducible repeat (first | refine blk_drewN ?_ _ | refine blk_drew ?_ | refine blk_alloc ?_ _)); exact BK192.out), (by (with_reducible repeat (first | refine blk_drewN ?_ _ | refine blk_drew ?_ | refine blk_alloc ?_ _)); exact BK193.out), (by (with_reducible repeat (first | refine blk_drewN ?_ _ | refine blk_drew ?_ | refine blk_alloc ?_ _)); exact BK199.out), GW199.out, GE199.out, NB191_199.out, NB199_191.out, NB192_199.out, NB199_192.out, NB193_199.out, NB199_193.out, (by repeat (first | (with_reducible first | exact HB.out | apply below_alloc | apply pw_below_drewN | apply below_drew1 | refine below_set ?_ GE191.out | refine below_set ?_ GE192.out | refine below_set ?_ GE193.out | refine below_set ?_ GE199.out) | exact HB.out))⟩)
                      · skip
                        rintro gb199 wza3 ⟨hS_, h0_, h1_, h2_, h3_, h4_, h5_, h6_, h7_, h8_, h9_, h10_, h11_, h12_⟩
                        have n0_ : Aside0 (wza3.heap[gb191]? = some (.cells #[.int .i64 a0_0, .int .i64 a0_1] 25 (0, 0))) := ⟨h0_⟩
                        have n1_ : Aside0 (wza3.heap[gb192]? = some (.cells #[.int .i64 a1_0, .int .i64 a1_1] 25 (0, 0))) := ⟨h1_⟩
                        have n2_ : Aside0 (wza3.heap[gb193]? = some (.cells #[.int .i64 a2_0, .int .i64 a2_1] 25 (0, 0))) := ⟨h2_⟩
                        have n3_ : Aside0 (wza3.heap[gb199]? = some (.cells #[.int .i64 0, .int .i64 0] 25 (0, 0))) := ⟨h3_⟩
                        have n4_ : Aside0 (w.heap.size ≤ gb199) := ⟨h4_⟩
                        have n5_ : Aside0 (w.heap.size ≤ gb199) := ⟨h5_⟩
                        have n6_ : Aside0 (gb191 ≠ gb199) := ⟨h6_⟩
                        have n7_ : Aside0 (gb199 ≠ gb191) := ⟨h7_⟩
                        have n8_ : Aside0 (gb192 ≠ gb199) := ⟨h8_⟩
                        have n9_ : Aside0 (gb199 ≠ gb192) := ⟨h9_⟩
                        have n10_ : Aside0 (gb193 ≠ gb199) := ⟨h10_⟩
                        have n11_ : Aside0 (gb199 ≠ gb193) := ⟨h11_⟩
                        have n12_ : Aside0 (Below w.heap.size w wza3) := ⟨h12_⟩
                        clear BK191; clear BK192; clear BK193; clear HB; clear h0_ h1_ h2_ h3_ h4_ h5_ h6_ h7_ h8_ h9_ h10_ h11_ h12_; have BK191 := n0_; have BK192 := n1_; have BK193 := n2_; have BK199 := n3_; have GW199 := n4_; have GE199 := n5_; have NB191_199 := n6_; have NB199_191 := n7_; have NB192_199 := n8_; have NB199_192 := n9_; have NB193_199 := n10_; have NB199_193 := n11_; have HB := n12_; clear n0_ n1_ n2_ n3_ n4_ n5_ n6_ n7_ n8_ n9_ n10_ n11_ n12_
                        have hHeld : wza3.cell? ⟨gb192, 0, none⟩ = some (.int .i64 a1_0) ∧ wza3.cell? ⟨gb192, 1, none⟩ = some (.int .i64 a1_1) ∧ wza3.cell? ⟨gb191, 0, none⟩ = some (.int .i64 a0_0) ∧ wza3.cell? ⟨gb191, 1, none⟩ = some (.int .i64 a0_1) ∧ wza3.cell? ⟨gb193, 0, none⟩ = some (.int .i64 a2_0) ∧ wza3.cell? ⟨gb193, 1, none⟩ = some (.int .i64 a2_1) := hS_
                        refine norm_ (a' := ?_) ?_ ?_
                        rotate_left
                        · simp only [putAll, Act.put, List.setIfInBounds_toArray, List.set_cons_zero, List.set_cons_succ]; rfl
                        refine two_ (i := 2) (j := 6) (Ni := some 15) (Nj := some 9) #[true, true, true, true, true, false, false, true, false, false] #[true, true, false, true, true, false, true, true, false, false] rfl rfl rfl rfl (two_of HT_.out (by kernel_rfl)) (by decide) (by decide) (fun K hK => ?_) (fun K hK => ?_)
                        · skip
                          refine goes_ Try.func53 (by kernel_rfl) rfl #[.agg #[.int .i64 a1_0, .int .i64 a1_1], .agg #[.int .i64 a0_0, .int .i64 a0_1]] (by rfl) rfl rfl (by (try simp only [List.map_toArray, List.map_cons, List.map_nil]); first | done | rfl | (simp only [List.length_drop, List.length_take]; rfl)) ?_
                          with_reducible refine (plane_Sub.calls a1_0 a1_1 a0_0 a0_1 t194 t195 _ A5.out).mono ?_
                          rintro e wza4 ⟨rfl, hb⟩
                          refine ⟨_, rfl, ?_⟩
                          have n0_ := Aside0.mk (blk_below (g := gb191) (o := .cells #[.int .i64 a0_0, .int .i64 a0_1] 25 (0, 0)) (by (with_reducible repeat (first | refine blk_drewN ?_ _ | refine blk_drew ?_ | refine blk_alloc ?_ _)); exact BK191.out) hb)
                          have n1_ := Aside0.mk (blk_below (g := gb192) (o := .cells #[.int .i64 a1_0, .int .i64 a1_1] 25 (0, 0)) (by (with_reducible repeat (first | refine blk_drewN ?_ _ | refine blk_drew ?_ | refine blk_alloc ?_ _)); exact BK192.out) hb)
                          have n2_ := Aside0.mk (blk_below (g := gb193) (o := .cells #[.int .i64 a2_0, .int .i64 a2_1] 25 (0, 0)) (by (with_reducible repeat (first | refine blk_drewN ?_ _ | refine blk_drew ?_ | refine blk_alloc ?_ _)); exact BK193.out) hb)
                          have n3_ := Aside0.mk (blk_below (g := gb199) (o := .cells #[.int .i64 0, .int .i64 0] 25 (0, 0)) (by (with_reducible repeat (first | refine blk_drewN ?_ _ | refine blk_drew ?_ | refine blk_alloc ?_ _)); exact BK199.out) hb)
                          have n4_ := Aside0.mk (below_step (by repeat (first | (with_reducible first | exact HB.out | apply below_alloc | apply pw_below_drewN | apply below_drew1 | refine below_set ?_ GE191.out | refine below_set ?_ GE192.out | refine below_set ?_ GE193.out | refine below_set ?_ GE199.out) | exact HB.out)) hb)
                          clear BK191; clear BK192; clear BK193; clear BK199; clear HB; have BK191 := n0_; have BK192 := n1_; have BK193 := n2_; have BK199 := n3_; have HB := n4_; clear n0_ n1_ n2_ n3_ n4_
                          (try clear hb)
                          (try clear hb2)
                          (try clear hk)
                          (try clear hi)
                          refine hK.out _ _ ⟨(blk_cell BK192.out 0).trans rfl, (blk_cell BK192.out 1).trans rfl, (blk_cell BK191.out 0).trans rfl, (blk_cell BK191.out 1).trans rfl, (blk_cell BK193.out 0).trans rfl, (blk_cell BK193.out 1).trans rfl⟩ (fun hHeld => ?_)
                          clear hK K
                          refine norm_ (a' := ?_) ?_ ?_
                          rotate_left
                          · show Act.put _ (some 15) _ = _
                            simp only [Act.put, List.setIfInBounds_toArray, List.set_cons_zero, List.set_cons_succ, i64_w, i32_w]; rfl
                          exact norm_ (by first | (simp only [putAll, Act.put, List.setIfInBounds_toArray, List.set_cons_zero, List.set_cons_succ]; done) | (simp only [putAll, Act.put, List.setIfInBounds_toArray, List.set_cons_zero, List.set_cons_succ]; rfl)) (hJ2_7 (gb199) _ ⟨hHeld, (by (with_reducible repeat (first | refine blk_drewN ?_ _ | refine blk_drew ?_ | refine blk_alloc ?_ _)); exact BK191.out), (by (with_reducible repeat (first | refine blk_drewN ?_ _ | refine blk_drew ?_ | refine blk_alloc ?_ _)); exact BK192.out), (by (with_reducible repeat (first | refine blk_drewN ?_ _ | refine blk_drew ?_ | refine blk_alloc ?_ _)); exact BK193.out), (by (with_reducible repeat (first | refine blk_drewN ?_ _ | refine blk_drew ?_ | refine blk_alloc ?_ _)); exact BK199.out), GW199.out, GE199.out, NB191_199.out, NB199_191.out, NB192_199.out, NB199_192.out, NB193_199.out, NB199_193.out, (by repeat (first | (with_reducible first | exact HB.out | apply below_alloc | apply pw_below_drewN | apply below_drew1 | refine below_set ?_ GE191.out | refine below_set ?_ GE192.out | refine below_set ?_ GE193.out | refine below_set ?_ GE199.out) | exact HB.out))⟩)
                        · skip
                          refine box_step ?hg (N := 9) ?hd (cs := #[.int .i64 0, .int .i64 0]) (t := 25) ?hr ?_; (case hd => rfl); (case hg => rfl); (case hr => first | (go_simp; done) | (go_simp; rfl))
                          intro gb198 hg wza4 hbox hb
                          have n0_ := Aside0.mk (blk_below (g := gb191) (o := .cells #[.int .i64 a0_0, .int .i64 a0_1] 25 (0, 0)) (by (with_reducible repeat (first | refine blk_drewN ?_ _ | refine blk_drew ?_ | refine blk_alloc ?_ _)); exact BK191.out) hb)
                          have n1_ := Aside0.mk (blk_below (g := gb192) (o := .cells #[.int .i64 a1_0, .int .i64 a1_1] 25 (0, 0)) (by (with_reducible repeat (first | refine blk_drewN ?_ _ | refine blk_drew ?_ | refine blk_alloc ?_ _)); exact BK192.out) hb)
                          have n2_ := Aside0.mk (blk_below (g := gb193) (o := .cells #[.int .i64 a2_0, .int .i64 a2_1] 25 (0, 0)) (by (with_reducible repeat (first | refine blk_drewN ?_ _ | refine blk_drew ?_ | refine blk_alloc ?_ _)); exact BK193.out) hb)
                          have n3_ := Aside0.mk (blk_below (g := gb199) (o := .cells #[.int .i64 0, .int .i64 0] 25 (0, 0)) (by (with_reducible repeat (first | refine blk_drewN ?_ _ | refine blk_drew ?_ | refine blk_alloc ?_ _)); exact BK199.out) hb)
                          have n4_ := Aside0.mk (below_step (by repeat (first | (with_reducible first | exact HB.out | apply below_alloc | apply pw_below_drewN | apply below_drew1 | refine below_set ?_ GE191.out | refine below_set ?_ GE192.out | refine below_set ?_ GE193.out | refine below_set ?_ GE199.out) | exact HB.out)) hb)
                          have n5_ := Aside0.mk (hbox)
                          have n6_ := Aside0.mk ((by rw [hg]; exact (below_size (by repeat (first | (with_reducible first | exact HB.out | apply below_alloc | apply pw_below_drewN | apply below_drew1 | refine below_set ?_ GE191.out | refine below_set ?_ GE192.out | refine below_set ?_ GE193.out | refine below_set ?_ GE199.out) | exact HB.out))) : w.heap.size ≤ gb198))
                          have n7_ := Aside0.mk ((by rw [hg]; exact (below_size (by repeat (first | (with_reducible first | exact HB.out | apply below_alloc | apply pw_below_drewN | apply below_drew1 | refine below_set ?_ GE191.out | refine below_set ?_ GE192.out | refine below_set ?_ GE193.out | refine below_set ?_ GE199.out) | exact HB.out))) : w.heap.size ≤ gb198))
                          have n8_ := Aside0.mk ((by rw [hg]; exact Nat.ne_of_lt (blk_lt (g := gb191) (o := .cells #[.int .i64 a0_0, .int .i64 a0_1] 25 (0, 0)) (by (with_reducible repeat (first | refine blk_drewN ?_ _ | refine blk_drew ?_ | refine blk_alloc ?_ _)); exact BK191.out)) : gb191 ≠ gb198))
                          have n9_ := Aside0.mk ((by rw [hg]; exact Nat.ne_of_gt (blk_lt (g := gb191) (o := .cells #[.int .i64 a0_0, .int .i64 a0_1] 25 (0, 0)) (by (with_reducible repeat (first | refine blk_drewN ?_ _ | refine blk_drew ?_ | refine blk_alloc ?_ _)); exact BK191.out)) : gb198 ≠ gb191))
                          have n10_ := Aside0.mk ((by rw [hg]; exact Nat.ne_of_lt (blk_lt (g := gb192) (o := .cells #[.int .i64 a1_0, .int .i64 a1_1] 25 (0, 0)) (by (with_reducible repeat (first | refine blk_drewN ?_ _ | refine blk_drew ?_ | refine blk_alloc ?_ _)); exact BK192.out)) : gb192 ≠ gb198))
                          have n11_ := Aside0.mk ((by rw [hg]; exact Nat.ne_of_gt (blk_lt (g := gb192) (o := .cells #[.int .i64 a1_0, .int .i64 a1_1] 25 (0, 0)) (by (with_reducible repeat (first | refine blk_drewN ?_ _ | refine blk_drew ?_ | refine blk_alloc ?_ _)); exact BK192.out)) : gb198 ≠ gb192))
                          have n12_ := Aside0.mk ((by rw [hg]; exact Nat.ne_of_lt (blk_lt (g := gb193) (o := .cells #[.int .i64 a2_0, .int .i64 a2_1] 25 (0, 0)) (by (with_reducible repeat (first | refine blk_drewN ?_ _ | refine blk_drew ?_ | refine blk_alloc ?_ _)); exact BK193.out)) : gb193 ≠ gb198))
                          have n13_ := Aside0.mk ((by rw [hg]; exact Nat.ne_of_gt (blk_lt (g := gb193) (o := .cells #[.int .i64 a2_0, .int .i64 a2_1] 25 (0, 0)) (by (with_reducible repeat (first | refine blk_drewN ?_ _ | refine blk_drew ?_ | refine blk_alloc ?_ _)); exact BK193.out)) : gb198 ≠ gb193))
                          have n14_ := Aside0.mk ((by rw [hg]; exact Nat.ne_of_lt (blk_lt (g := gb199) (o := .cells #[.int .i64 0, .int .i64 0] 25 (0, 0)) (by (with_reducible repeat (first | refine blk_drewN ?_ _ | refine blk_drew ?_ | refine blk_alloc ?_ _)); exact BK199.out)) : gb199 ≠ gb198))
                          have n15_ := Aside0.mk ((by rw [hg]; exact Nat.ne_of_gt (blk_lt (g := gb199) (o := .cells #[.int .i64 0, .int .i64 0] 25 (0, 0)) (by (with_reducible repeat (first | refine blk_drewN ?_ _ | refine blk_drew ?_ | refine blk_alloc ?_ _)); exact BK199.out)) : gb198 ≠ gb199))
                          clear BK191; clear BK192; clear BK193; clear BK199; clear HB; have BK191 := n0_; have BK192 := n1_; have BK193 := n2_; have BK199 := n3_; have HB := n4_; have BK198 := n5_; have GW198 := n6_; have GE198 := n7_; have NB191_198 := n8_; have NB198_191 := n9_; have NB192_198 := n10_; have NB198_192 := n11_; have NB193_198 := n12_; have NB198_193 := n13_; have NB199_198 := n14_; have NB198_199 := n15_; clear n0_ n1_ n2_ n3_ n4_ n5_ n6_ n7_ n8_ n9_ n10_ n11_ n12_ n13_ n14_ n15_; clear hb hbox hg
                          refine hK.out _ _ ⟨(blk_cell BK192.out 0).trans rfl, (blk_cell BK192.out 1).trans rfl, (blk_cell BK191.out 0).trans rfl, (blk_cell BK191.out 1).trans rfl, (blk_cell BK193.out 0).trans rfl, (blk_cell BK193.out 1).trans rfl⟩ (fun hHeld => ?_)
                          clear hK K
                          refine norm_ (a' := ?_) ?_ ?_
                          rotate_left
                          · show Act.put _ (some 9) _ = _
                            simp only [Act.put, List.setIfInBounds_toArray, List.set_cons_zero, List.set_cons_succ, i64_w, i32_w]; rfl
                          exact norm_ (by first | (simp only [putAll, Act.put, List.setIfInBounds_toArray, List.set_cons_zero, List.set_cons_succ]; done) | (simp only [putAll, Act.put, List.setIfInBounds_toArray, List.set_cons_zero, List.set_cons_succ]; rfl)) (hJ6_7 (gb198, gb199) _ ⟨hHeld, (by (with_reducible repeat (first | refine blk_drewN ?_ _ | refine blk_drew ?_ | refine blk_alloc ?_ _)); exact BK191.out), (by (with_reducible repeat (first | refine blk_drewN ?_ _ | refine blk_drew ?_ | refine blk_alloc ?_ _)); exact BK192.out), (by (with_reducible repeat (first | refine blk_drewN ?_ _ | refine blk_drew ?_ | refine blk_alloc ?_ _)); exact BK193.out), (by (with_reducible repeat (first | refine blk_drewN ?_ _ | refine blk_drew ?_ | refine blk_alloc ?_ _)); exact BK198.out), (by (with_reducible repeat (first | refine blk_drewN ?_ _ | refine blk_drew ?_ | refine blk_alloc ?_ _)); exact BK199.out), GW198.out, GE198.out, NB191_198.out, NB198_191.out, NB192_198.out, NB198_192.out, NB193_198.out, NB198_193.out, NB199_198.out, NB198_199.out, GW199.out, GE199.out, NB191_199.out, NB199_191.out, NB192_199.out, NB199_192.out, NB193_199.out, NB199_193.out, (by repeat (first | (with_reducible first | exact HB.out | apply below_alloc | apply pw_below_drewN | apply below_drew1 | refine below_set ?_ GE191.out | refine below_set ?_ GE192.out | refine below_set ?_ GE193.out | refine below_set ?_ GE199.out | refine below_set ?_ GE198.out) | exact HB.out))⟩)
                    · skip
                      rintro gb198 wza3 ⟨hS_, h0_, h1_, h2_, h3_, h4_, h5_, h6_, h7_, h8_, h9_, h10_, h11_, h12_⟩
                      have n0_ : Aside0 (wza3.heap[gb191]? = some (.cells #[.int .i64 a0_0, .int .i64 a0_1] 25 (0, 0))) := ⟨h0_⟩
                      have n1_ : Aside0 (wza3.heap[gb192]? = some (.cells #[.int .i64 a1_0, .int .i64 a1_1] 25 (0, 0))) := ⟨h1_⟩
                      have n2_ : Aside0 (wza3.heap[gb193]? = some (.cells #[.int .i64 a2_0, .int .i64 a2_1] 25 (0, 0))) := ⟨h2_⟩
                      have n3_ : Aside0 (wza3.heap[gb198]? = some (.cells #[.int .i64 0, .int .i64 0] 25 (0, 0))) := ⟨h3_⟩
                      have n4_ : Aside0 (w.heap.size ≤ gb198) := ⟨h4_⟩
                      have n5_ : Aside0 (w.heap.size ≤ gb198) := ⟨h5_⟩
                      have n6_ : Aside0 (gb191 ≠ gb198) := ⟨h6_⟩
                      have n7_ : Aside0 (gb198 ≠ gb191) := ⟨h7_⟩
                      have n8_ : Aside0 (gb192 ≠ gb198) := ⟨h8_⟩
                      have n9_ : Aside0 (gb198 ≠ gb192) := ⟨h9_⟩
                      have n10_ : Aside0 (gb193 ≠ gb198) := ⟨h10_⟩
                      have n11_ : Aside0 (gb198 ≠ gb193) := ⟨h11_⟩
                      have n12_ : Aside0 (Below w.heap.size w wza3) := ⟨h12_⟩
                      clear BK191; clear BK192; clear BK193; clear HB; clear h0_ h1_ h2_ h3_ h4_ h5_ h6_ h7_ h8_ h9_ h10_ h11_ h12_; have BK191 := n0_; have BK192 := n1_; have BK193 := n2_; have BK198 := n3_; have GW198 := n4_; have GE198 := n5_; have NB191_198 := n6_; have NB198_191 := n7_; have NB192_198 := n8_; have NB198_192 := n9_; have NB193_198 := n10_; have NB198_193 := n11_; have HB := n12_; clear n0_ n1_ n2_ n3_ n4_ n5_ n6_ n7_ n8_ n9_ n10_ n11_ n12_
                      have hHeld : wza3.cell? ⟨gb192, 0, none⟩ = some (.int .i64 a1_0) ∧ wza3.cell? ⟨gb192, 1, none⟩ = some (.int .i64 a1_1) ∧ wza3.cell? ⟨gb191, 0, none⟩ = some (.int .i64 a0_0) ∧ wza3.cell? ⟨gb191, 1, none⟩ = some (.int .i64 a0_1) ∧ wza3.cell? ⟨gb193, 0, none⟩ = some (.int .i64 a2_0) ∧ wza3.cell? ⟨gb193, 1, none⟩ = some (.int .i64 a2_1) := hS_
                      refine norm_ (a' := ?_) ?_ ?_
                      rotate_left
                      · simp only [putAll, Act.put, List.setIfInBounds_toArray, List.set_cons_zero, List.set_cons_succ]; rfl
                      refine two_ (i := 2) (j := 7) (Ni := some 15) (Nj := some 10) #[true, true, true, true, true, false, true, false, false, false] #[true, true, false, true, true, false, true, true, false, false] rfl rfl rfl rfl (two_of HT_.out (by kernel_rfl)) (by decide) (by decide) (fun K hK => ?_) (fun K hK => ?_)
                      · skip
                        refine goes_ Try.func53 (by kernel_rfl) rfl #[.agg #[.int .i64 a1_0, .int .i64 a1_1], .agg #[.int .i64 a0_0, .int .i64 a0_1]] (by rfl) rfl rfl (by (try simp only [List.map_toArray, List.map_cons, List.map_nil]); first | done | rfl | (simp only [List.length_drop, List.length_take]; rfl)) ?_
                        with_reducible refine (plane_Sub.calls a1_0 a1_1 a0_0 a0_1 t194 t195 _ A5.out).mono ?_
                        rintro e wza4 ⟨rfl, hb⟩
                        refine ⟨_, rfl, ?_⟩
                        have n0_ := Aside0.mk (blk_below (g := gb191) (o := .cells #[.int .i64 a0_0, .int .i64 a0_1] 25 (0, 0)) (by (with_reducible repeat (first | refine blk_drewN ?_ _ | refine blk_drew ?_ | refine blk_alloc ?_ _)); exact BK191.out) hb)
                        have n1_ := Aside0.mk (blk_below (g := gb192) (o := .cells #[.int .i64 a1_0, .int .i64 a1_1] 25 (0, 0)) (by (with_reducible repeat (first | refine blk_drewN ?_ _ | refine blk_drew ?_ | refine blk_alloc ?_ _)); exact BK192.out) hb)
                        have n2_ := Aside0.mk (blk_below (g := gb193) (o := .cells #[.int .i64 a2_0, .int .i64 a2_1] 25 (0, 0)) (by (with_reducible repeat (first | refine blk_drewN ?_ _ | refine blk_drew ?_ | refine blk_alloc ?_ _)); exact BK193.out) hb)
                        have n3_ := Aside0.mk (blk_below (g := gb198) (o := .cells #[.int .i64 0, .int .i64 0] 25 (0, 0)) (by (with_reducible repeat (first | refine blk_drewN ?_ _ | refine blk_drew ?_ | refine blk_alloc ?_ _)); exact BK198.out) hb)
                        have n4_ := Aside0.mk (below_step (by repeat (first | (with_reducible first | exact HB.out | apply below_alloc | apply pw_below_drewN | apply below_drew1 | refine below_set ?_ GE191.out | refine below_set ?_ GE192.out | refine below_set ?_ GE193.out | refine below_set ?_ GE198.out) | exact HB.out)) hb)
                        clear BK191; clear BK192; clear BK193; clear BK198; clear HB; have BK191 := n0_; have BK192 := n1_; have BK193 := n2_; have BK198 := n3_; have HB := n4_; clear n0_ n1_ n2_ n3_ n4_
                        (try clear hb)
                        (try clear hb2)
                        (try clear hk)
                        (try clear hi)
                        refine hK.out _ _ ⟨(blk_cell BK192.out 0).trans rfl, (blk_cell BK192.out 1).trans rfl, (blk_cell BK191.out 0).trans rfl, (blk_cell BK191.out 1).trans rfl, (blk_cell BK193.out 0).trans rfl, (blk_cell BK193.out 1).trans rfl⟩ (fun hHeld => ?_)
                        clear hK K
                        refine norm_ (a' := ?_) ?_ ?_
                        rotate_left
                        · show Act.put _ (some 15) _ = _
                          simp only [Act.put, List.setIfInBounds_toArray, List.set_cons_zero, List.set_cons_succ, i64_w, i32_w]; rfl
                        exact norm_ (by first | (simp only [putAll, Act.put, List.setIfInBounds_toArray, List.set_cons_zero, List.set_cons_succ]; done) | (simp only [putAll, Act.put, List.setIfInBounds_toArray, List.set_cons_zero, List.set_cons_succ]; rfl)) (hJ2_6 (gb198) _ ⟨hHeld, (by (with_reducible repeat (first | refine blk_drewN ?_ _ | refine blk_drew ?_ | refine blk_alloc ?_ _)); exact BK191.out), (by (with_reducible repeat (first | refine blk_drewN ?_ _ | refine blk_drew ?_ | refine blk_alloc ?_ _)); exact BK192.out), (by (with_reducible repeat (first | refine blk_drewN ?_ _ | refine blk_drew ?_ | refine blk_alloc ?_ _)); exact BK193.out), (by (with_reducible repeat (first | refine blk_drewN ?_ _ | refine blk_drew ?_ | refine blk_alloc ?_ _)); exact BK198.out), GW198.out, GE198.out, NB191_198.out, NB198_191.out, NB192_198.out, NB198_192.out, NB193_198.out, NB198_193.out, (by repeat (first | (with_reducible first | exact HB.out | apply below_alloc | apply pw_below_drewN | apply below_drew1 | refine below_set ?_ GE191.out | refine below_set ?_ GE192.out | refine below_set ?_ GE193.out | refine below_set ?_ GE198.out) | exact HB.out))⟩)
                      · skip
                        refine box_step ?hg (N := 10) ?hd (cs := #[.int .i64 0, .int .i64 0]) (t := 25) ?hr ?_; (case hd => rfl); (case hg => rfl); (case hr => first | (go_simp; done) | (go_simp; rfl))
                        intro gb199 hg wza4 hbox hb
                        have n0_ := Aside0.mk (blk_below (g := gb191) (o := .cells #[.int .i64 a0_0, .int .i64 a0_1] 25 (0, 0)) (by (with_reducible repeat (first | refine blk_drewN ?_ _ | refine blk_drew ?_ | refine blk_alloc ?_ _)); exact BK191.out) hb)
                        have n1_ := Aside0.mk (blk_below (g := gb192) (o := .cells #[.int .i64 a1_0, .int .i64 a1_1] 25 (0, 0)) (by (with_reducible repeat (first | refine blk_drewN ?_ _ | refine blk_drew ?_ | refine blk_alloc ?_ _)); exact BK192.out) hb)
                        have n2_ := Aside0.mk (blk_below (g := gb193) (o := .cells #[.int .i64 a2_0, .int .i64 a2_1] 25 (0, 0)) (by (with_reducible repeat (first | refine blk_drewN ?_ _ | refine blk_drew ?_ | refine blk_alloc ?_ _)); exact BK193.out) hb)
                        have n3_ := Aside0.mk (blk_below (g := gb198) (o := .cells #[.int .i64 0, .int .i64 0] 25 (0, 0)) (by (with_reducible repeat (first | refine blk_drewN ?_ _ | refine blk_drew ?_ | refine blk_alloc ?_ _)); exact BK198.out) hb)
                        have n4_ := Aside0.mk (below_step (by repeat (first | (with_reducible first | exact HB.out | apply below_alloc | apply pw_below_drewN | apply below_drew1 | refine below_set ?_ GE191.out | refine below_set ?_ GE192.out | refine below_set ?_ GE193.out | refine below_set ?_ GE198.out) | exact HB.out)) hb)
                        have n5_ := Aside0.mk (hbox)
                        have n6_ := Aside0.mk ((by rw [hg]; exact (below_size (by repeat (first | (with_reducible first | exact HB.out | apply below_alloc | apply pw_below_drewN | apply below_drew1 | refine below_set ?_ GE191.out | refine below_set ?_ GE192.out | refine below_set ?_ GE193.out | refine below_set ?_ GE198.out) | exact HB.out))) : w.heap.size ≤ gb199))
                        have n7_ := Aside0.mk ((by rw [hg]; exact (below_size (by repeat (first | (with_reducible first | exact HB.out | apply below_alloc | apply pw_below_drewN | apply below_drew1 | refine below_set ?_ GE191.out | refine below_set ?_ GE192.out | refine below_set ?_ GE193.out | refine below_set ?_ GE198.out) | exact HB.out))) : w.heap.size ≤ gb199))
                        have n8_ := Aside0.mk ((by rw [hg]; exact Nat.ne_of_lt (blk_lt (g := gb191) (o := .cells #[.int .i64 a0_0, .int .i64 a0_1] 25 (0, 0)) (by (with_reducible repeat (first | refine blk_drewN ?_ _ | refine blk_drew ?_ | refine blk_alloc ?_ _)); exact BK191.out)) : gb191 ≠ gb199))
                        have n9_ := Aside0.mk ((by rw [hg]; exact Nat.ne_of_gt (blk_lt (g := gb191) (o := .cells #[.int .i64 a0_0, .int .i64 a0_1] 25 (0, 0)) (by (with_reducible repeat (first | refine blk_drewN ?_ _ | refine blk_drew ?_ | refine blk_alloc ?_ _)); exact BK191.out)) : gb199 ≠ gb191))
                        have n10_ := Aside0.mk ((by rw [hg]; exact Nat.ne_of_lt (blk_lt (g := gb192) (o := .cells #[.int .i64 a1_0, .int .i64 a1_1] 25 (0, 0)) (by (with_reducible repeat (first | refine blk_drewN ?_ _ | refine blk_drew ?_ | refine blk_alloc ?_ _)); exact BK192.out)) : gb192 ≠ gb199))
                        have n11_ := Aside0.mk ((by rw [hg]; exact Nat.ne_of_gt (blk_lt (g := gb192) (o := .cells #[.int .i64 a1_0, .int .i64 a1_1] 25 (0, 0)) (by (with_reducible repeat (first | refine blk_drewN ?_ _ | refine blk_drew ?_ | refine blk_alloc ?_ _)); exact BK192.out)) : gb199 ≠ gb192))
                        have n12_ := Aside0.mk ((by rw [hg]; exact Nat.ne_of_lt (blk_lt (g := gb193) (o := .cells #[.int .i64 a2_0, .int .i64 a2_1] 25 (0, 0)) (by (with_reducible repeat (first | refine blk_drewN ?_ _ | refine blk_drew ?_ | refine blk_alloc ?_ _)); exact BK193.out)) : gb193 ≠ gb199))
                        have n13_ := Aside0.mk ((by rw [hg]; exact Nat.ne_of_gt (blk_lt (g := gb193) (o := .cells #[.int .i64 a2_0, .int .i64 a2_1] 25 (0, 0)) (by (with_reducible repeat (first | refine blk_drewN ?_ _ | refine blk_drew ?_ | refine blk_alloc ?_ _)); exact BK193.out)) : gb199 ≠ gb193))
                        have n14_ := Aside0.mk ((by rw [hg]; exact Nat.ne_of_lt (blk_lt (g := gb198) (o := .cells #[.int .i64 0, .int .i64 0] 25 (0, 0)) (by (with_reducible repeat (first | refine blk_drewN ?_ _ | refine blk_drew ?_ | refine blk_alloc ?_ _)); exact BK198.out)) : gb198 ≠ gb199))
                        have n15_ := Aside0.mk ((by rw [hg]; exact Nat.ne_of_gt (blk_lt (g := gb198) (o := .cells #[.int .i64 0, .int .i64 0] 25 (0, 0)) (by (with_reducible repeat (first | refine blk_drewN ?_ _ | refine blk_drew ?_ | refine blk_alloc ?_ _)); exact BK198.out)) : gb199 ≠ gb198))
                        clear BK191; clear BK192; clear BK193; clear BK198; clear HB; have BK191 := n0_; have BK192 := n1_; have BK193 := n2_; have BK198 := n3_; have HB := n4_; have BK199 := n5_; have GW199 := n6_; have GE199 := n7_; have NB191_199 := n8_; have NB199_191 := n9_; have NB192_199 := n10_; have NB199_192 := n11_; have NB193_199 := n12_; have NB199_193 := n13_; have NB198_199 := n14_; have NB199_198 := n15_; clear n0_ n1_ n2_ n3_ n4_ n5_ n6_ n7_ n8_ n9_ n10_ n11_ n12_ n13_ n14_ n15_; clear hb hbox hg
                        refine hK.out _ _ ⟨(blk_cell BK192.out 0).trans rfl, (blk_cell BK192.out 1).trans rfl, (blk_cell BK191.out 0).trans rfl, (blk_cell BK191.out 1).trans rfl, (blk_cell BK193.out 0).trans rfl, (blk_cell BK193.out 1).trans rfl⟩ (fun hHeld => ?_)
                        clear hK K
                        refine norm_ (a' := ?_) ?_ ?_
                        rotate_left
                        · show Act.put _ (some 10) _ = _
                          simp only [Act.put, List.setIfInBounds_toArray, List.set_cons_zero, List.set_cons_succ, i64_w, i32_w]; rfl
                        exact norm_ (by first | (simp only [putAll, Act.put, List.setIfInBounds_toArray, List.set_cons_zero, List.set_cons_succ]; done) | (simp only [putAll, Act.put, List.setIfInBounds_toArray, List.set_cons_zero, List.set_cons_succ]; rfl)) (hJ6_7 (gb198, gb199) _ ⟨hHeld, (by (with_reducible repeat (first | refine blk_drewN ?_ _ | refine blk_drew ?_ | refine blk_alloc ?_ _)); exact BK191.out), (by (with_reducible repeat (first | refine blk_drewN ?_ _ | refine blk_drew ?_ | refine blk_alloc ?_ _)); exact BK192.out), (by (with_reducible repeat (first | refine blk_drewN ?_ _ | refine blk_drew ?_ | refine blk_alloc ?_ _)); exact BK193.out), (by (with_reducible repeat (first | refine blk_drewN ?_ _ | refine blk_drew ?_ | refine blk_alloc ?_ _)); exact BK198.out), (by (with_reducible repeat (first | refine blk_drewN ?_ _ | refine blk_drew ?_ | refine blk_alloc ?_ _)); exact BK199.out), GW198.out, GE198.out, NB191_198.out, NB198_191.out, NB192_198.out, NB198_192.out, NB193_198.out, NB198_193.out, NB199_198.out, NB198_199.out, GW199.out, GE199.out, NB191_199.out, NB199_191.out, NB192_199.out, NB199_192.out, NB193_199.out, NB199_193.out, (by repeat (first | (with_reducible first | exact HB.out | apply below_alloc | apply pw_below_drewN | apply below_drew1 | refine below_set ?_ GE191.out | refine below_set ?_ GE192.out | refine below_set ?_ GE193.out | refine below_set ?_ GE198.out | refine below_set ?_ GE199.out) | exact HB.out))⟩)
                  · skip
                    rintro _ wza3 ⟨hS_, h0_, h1_, h2_, h3_⟩
                    have n0_ : Aside0 (wza3.heap[gb191]? = some (.cells #[.int .i64 a0_0, .int .i64 a0_1] 25 (0, 0))) := ⟨h0_⟩
                    have n1_ : Aside0 (wza3.heap[gb192]? = some (.cells #[.int .i64 a1_0, .int .i64 a1_1] 25 (0, 0))) := ⟨h1_⟩
                    have n2_ : Aside0 (wza3.heap[gb193]? = some (.cells #[.int .i64 a2_0, .int .i64 a2_1] 25 (0, 0))) := ⟨h2_⟩
                    have n3_ : Aside0 (Below w.heap.size w wza3) := ⟨h3_⟩
                    clear BK191; clear BK192; clear BK193; clear HB; clear h0_ h1_ h2_ h3_; have BK191 := n0_; have BK192 := n1_; have BK193 := n2_; have HB := n3_; clear n0_ n1_ n2_ n3_
                    have hHeld : wza3.cell? ⟨gb192, 0, none⟩ = some (.int .i64 a1_0) ∧ wza3.cell? ⟨gb192, 1, none⟩ = some (.int .i64 a1_1) ∧ wza3.cell? ⟨gb191, 0, none⟩ = some (.int .i64 a0_0) ∧ wza3.cell? ⟨gb191, 1, none⟩ = some (.int .i64 a0_1) ∧ wza3.cell? ⟨gb193, 0, none⟩ = some (.int .i64 a2_0) ∧ wza3.cell? ⟨gb193, 1, none⟩ = some (.int .i64 a2_1) := hS_
                    refine norm_ (a' := ?_) ?_ ?_
                    rotate_left
                    · simp only [putAll, Act.put, List.setIfInBounds_toArray, List.set_cons_zero, List.set_cons_succ]; rfl
                    refine three_ (i := 5) (j := 6) (k := 7) (Ni := some 18) (Nj := some 9) (Nk := some 10) #[true, true, true, true, true, true, false, false, false, false] #[true, true, true, true, true, false, true, false, false, false] #[true, true, true, true, true, false, false, true, false, false] rfl rfl rfl rfl rfl rfl (three_of HT_.out (by kernel_rfl)) (by decide) (by decide) (by decide) (fun K hK => ?_) (fun K hK => ?_) (fun K hK => ?_)
                    · skip
                      refine goes_ Try.func53 (by kernel_rfl) rfl #[.agg #[.int .i64 a2_0, .int .i64 a2_1], .agg #[.int .i64 a0_0, .int .i64 a0_1]] (by rfl) rfl rfl (by (try simp only [List.map_toArray, List.map_cons, List.map_nil]); first | done | rfl | (simp only [List.length_drop, List.length_take]; rfl)) ?_
                      with_reducible refine (plane_Sub.calls a2_0 a2_1 a0_0 a0_1 t196 t197 _ A6.out).mono ?_
                      rintro e wza4 ⟨rfl, hb⟩
                      refine ⟨_, rfl, ?_⟩
                      have n0_ := Aside0.mk (blk_below (g := gb191) (o := .cells #[.int .i64 a0_0, .int .i64 a0_1] 25 (0, 0)) (by (with_reducible repeat (first | refine blk_drewN ?_ _ | refine blk_drew ?_ | refine blk_alloc ?_ _)); exact BK191.out) hb)
                      have n1_ := Aside0.mk (blk_below (g := gb192) (o := .cells #[.int .i64 a1_0, .int .i64 a1_1] 25 (0, 0)) (by (with_reducible repeat (first | refine blk_drewN ?_ _ | refine blk_drew ?_ | refine blk_alloc ?_ _)); exact BK192.out) hb)
                      have n2_ := Aside0.mk (blk_below (g := gb193) (o := .cells #[.int .i64 a2_0, .int .i64 a2_1] 25 (0, 0)) (by (with_reducible repeat (first | refine blk_drewN ?_ _ | refine blk_drew ?_ | refine blk_alloc ?_ _)); exact BK193.out) hb)
                      have n3_ := Aside0.mk (below_step (by repeat (first | (with_reducible first | exact HB.out | apply below_alloc | apply pw_below_drewN | apply below_drew1 | refine below_set ?_ GE191.out | refine below_set ?_ GE192.out | refine below_set ?_ GE193.out) | exact HB.out)) hb)
                      clear BK191; clear BK192; clear BK193; clear HB; have BK191 := n0_; have BK192 := n1_; have BK193 := n2_; have HB := n3_; clear n0_ n1_ n2_ n3_
                      (try clear hb)
                      (try clear hb2)
                      (try clear hk)
                      (try clear hi)
                      refine hK.out _ _ ⟨(blk_cell BK192.out 0).trans rfl, (blk_cell BK192.out 1).trans rfl, (blk_cell BK191.out 0).trans rfl, (blk_cell BK191.out 1).trans rfl, (blk_cell BK193.out 0).trans rfl, (blk_cell BK193.out 1).trans rfl⟩ (fun hHeld => ?_)
                      clear hK K
                      refine norm_ (a' := ?_) ?_ ?_
                      rotate_left
                      · show Act.put _ (some 18) _ = _
                        simp only [Act.put, List.setIfInBounds_toArray, List.set_cons_zero, List.set_cons_succ, i64_w, i32_w]; rfl
                      exact norm_ (by first | (simp only [putAll, Act.put, List.setIfInBounds_toArray, List.set_cons_zero, List.set_cons_succ]; done) | (simp only [putAll, Act.put, List.setIfInBounds_toArray, List.set_cons_zero, List.set_cons_succ]; rfl)) (hJ2_5 () _ ⟨hHeld, (by (with_reducible repeat (first | refine blk_drewN ?_ _ | refine blk_drew ?_ | refine blk_alloc ?_ _)); exact BK191.out), (by (with_reducible repeat (first | refine blk_drewN ?_ _ | refine blk_drew ?_ | refine blk_alloc ?_ _)); exact BK192.out), (by (with_reducible repeat (first | refine blk_drewN ?_ _ | refine blk_drew ?_ | refine blk_alloc ?_ _)); exact BK193.out), (by repeat (first | (with_reducible first | exact HB.out | apply below_alloc | apply pw_below_drewN | apply below_drew1 | refine below_set ?_ GE191.out | refine below_set ?_ GE192.out | refine below_set ?_ GE193.out) | exact HB.out))⟩)
                    · skip
                      refine box_step ?hg (N := 9) ?hd (cs := #[.int .i64 0, .int .i64 0]) (t := 25) ?hr ?_; (case hd => rfl); (case hg => rfl); (case hr => first | (go_simp; done) | (go_simp; rfl))
                      intro gb198 hg wza4 hbox hb
                      have n0_ := Aside0.mk (blk_below (g := gb191) (o := .cells #[.int .i64 a0_0, .int .i64 a0_1] 25 (0, 0)) (by (with_reducible repeat (first | refine blk_drewN ?_ _ | refine blk_drew ?_ | refine blk_alloc ?_ _)); exact BK191.out) hb)
                      have n1_ := Aside0.mk (blk_below (g := gb192) (o := .cells #[.int .i64 a1_0, .int .i64 a1_1] 25 (0, 0)) (by (with_reducible repeat (first | refine blk_drewN ?_ _ | refine blk_drew ?_ | refine blk_alloc ?_ _)); exact BK192.out) hb)
                      have n2_ := Aside0.mk (blk_below (g := gb193) (o := .cells #[.int .i64 a2_0, .int .i64 a2_1] 25 (0, 0)) (by (with_reducible repeat (first | refine blk_drewN ?_ _ | refine blk_drew ?_ | refine blk_alloc ?_ _)); exact BK193.out) hb)
                      have n3_ := Aside0.mk (below_step (by repeat (first | (with_reducible first | exact HB.out | apply below_alloc | apply pw_below_drewN | apply below_drew1 | refine below_set ?_ GE191.out | refine below_set ?_ GE192.out | refine below_set ?_ GE193.out) | exact HB.out)) hb)
                      have n4_ := Aside0.mk (hbox)
                      have n5_ := Aside0.mk ((by rw [hg]; exact (below_size (by repeat (first | (with_reducible first | exact HB.out | apply below_alloc | apply pw_below_drewN | apply below_drew1 | refine below_set ?_ GE191.out | refine below_set ?_ GE192.out | refine below_set ?_ GE193.out) | exact HB.out))) : w.heap.size ≤ gb198))
                      have n6_ := Aside0.mk ((by rw [hg]; exact (below_size (by repeat (first | (with_reducible first | exact HB.out | apply below_alloc | apply pw_below_drewN | apply below_drew1 | refine below_set ?_ GE191.out | refine below_set ?_ GE192.out | refine below_set ?_ GE193.out) | exact HB.out))) : w.heap.size ≤ gb198))
                      have n7_ := Aside0.mk ((by rw [hg]; exact Nat.ne_of_lt (blk_lt (g := gb191) (o := .cells #[.int .i64 a0_0, .int .i64 a0_1] 25 (0, 0)) (by (with_reducible repeat (first | refine blk_drewN ?_ _ | refine blk_drew ?_ | refine blk_alloc ?_ _)); exact BK191.out)) : gb191 ≠ gb198))
                      have n8_ := Aside0.mk ((by rw [hg]; exact Nat.ne_of_gt (blk_lt (g := gb191) (o := .cells #[.int .i64 a0_0, .int .i64 a0_1] 25 (0, 0)) (by (with_reducible repeat (first | refine blk_drewN ?_ _ | refine blk_drew ?_ | refine blk_alloc ?_ _)); exact BK191.out)) : gb198 ≠ gb191))
                      have n9_ := Aside0.mk ((by rw [hg]; exact Nat.ne_of_lt (blk_lt (g := gb192) (o := .cells #[.int .i64 a1_0, .int .i64 a1_1] 25 (0, 0)) (by (with_reducible repeat (first | refine blk_drewN ?_ _ | refine blk_drew ?_ | refine blk_alloc ?_ _)); exact BK192.out)) : gb192 ≠ gb198))
                      have n10_ := Aside0.mk ((by rw [hg]; exact Nat.ne_of_gt (blk_lt (g := gb192) (o := .cells #[.int .i64 a1_0, .int .i64 a1_1] 25 (0, 0)) (by (with_reducible repeat (first | refine blk_drewN ?_ _ | refine blk_drew ?_ | refine blk_alloc ?_ _)); exact BK192.out)) : gb198 ≠ gb192))
                      have n11_ := Aside0.mk ((by rw [hg]; exact Nat.ne_of_lt (blk_lt (g := gb193) (o := .cells #[.int .i64 a2_0, .int .i64 a2_1] 25 (0, 0)) (by (with_reducible repeat (first | refine blk_drewN ?_ _ | refine blk_drew ?_ | refine blk_alloc ?_ _)); exact BK193.out)) : gb193 ≠ gb198))
                      have n12_ := Aside0.mk ((by rw [hg]; exact Nat.ne_of_gt (blk_lt (g := gb193) (o := .cells #[.int .i64 a2_0, .int .i64 a2_1] 25 (0, 0)) (by (with_reducible repeat (first | refine blk_drewN ?_ _ | refine blk_drew ?_ | refine blk_alloc ?_ _)); exact BK193.out)) : gb198 ≠ gb193))
                      clear BK191; clear BK192; clear BK193; clear HB; have BK191 := n0_; have BK192 := n1_; have BK193 := n2_; have HB := n3_; have BK198 := n4_; have GW198 := n5_; have GE198 := n6_; have NB191_198 := n7_; have NB198_191 := n8_; have NB192_198 := n9_; have NB198_192 := n10_; have NB193_198 := n11_; have NB198_193 := n12_; clear n0_ n1_ n2_ n3_ n4_ n5_ n6_ n7_ n8_ n9_ n10_ n11_ n12_; clear hb hbox hg
                      refine hK.out _ _ ⟨(blk_cell BK192.out 0).trans rfl, (blk_cell BK192.out 1).trans rfl, (blk_cell BK191.out 0).trans rfl, (blk_cell BK191.out 1).trans rfl, (blk_cell BK193.out 0).trans rfl, (blk_cell BK193.out 1).trans rfl⟩ (fun hHeld => ?_)
                      clear hK K
                      refine norm_ (a' := ?_) ?_ ?_
                      rotate_left
                      · show Act.put _ (some 9) _ = _
                        simp only [Act.put, List.setIfInBounds_toArray, List.set_cons_zero, List.set_cons_succ, i64_w, i32_w]; rfl
                      exact norm_ (by first | (simp only [putAll, Act.put, List.setIfInBounds_toArray, List.set_cons_zero, List.set_cons_succ]; done) | (simp only [putAll, Act.put, List.setIfInBounds_toArray, List.set_cons_zero, List.set_cons_succ]; rfl)) (hJ2_6 (gb198) _ ⟨hHeld, (by (with_reducible repeat (first | refine blk_drewN ?_ _ | refine blk_drew ?_ | refine blk_alloc ?_ _)); exact BK191.out), (by (with_reducible repeat (first | refine blk_drewN ?_ _ | refine blk_drew ?_ | refine blk_alloc ?_ _)); exact BK192.out), (by (with_reducible repeat (first | refine blk_drewN ?_ _ | refine blk_drew ?_ | refine blk_alloc ?_ _)); exact BK193.out), (by (with_reducible repeat (first | refine blk_drewN ?_ _ | refine blk_drew ?_ | refine blk_alloc ?_ _)); exact BK198.out), GW198.out, GE198.out, NB191_198.out, NB198_191.out, NB192_198.out, NB198_192.out, NB193_198.out, NB198_193.out, (by repeat (first | (with_reducible first | exact HB.out | apply below_alloc | apply pw_below_drewN | apply below_drew1 | refine below_set ?_ GE191.out | refine below_set ?_ GE192.out | refine below_set ?_ GE193.out | refine below_set ?_ GE198.out) | exact HB.out))⟩)
                    · skip
                      refine box_step ?hg (N := 10) ?hd (cs := #[.int .i64 0, .int .i64 0]) (t := 25) ?hr ?_; (case hd => rfl); (case hg => rfl); (case hr => first | (go_simp; done) | (go_simp; rfl))
                      intro gb199 hg wza4 hbox hb
                      have n0_ := Aside0.mk (blk_below (g := gb191) (o := .cells #[.int .i64 a0_0, .int .i64 a0_1] 25 (0, 0)) (by (with_reducible repeat (first | refine blk_drewN ?_ _ | refine blk_drew ?_ | refine blk_alloc ?_ _)); exact BK191.out) hb)
                      have n1_ := Aside0.mk (blk_below (g := gb192) (o := .cells #[.int .i64 a1_0, .int .i64 a1_1] 25 (0, 0)) (by (with_reducible repeat (first | refine blk_drewN ?_ _ | refine blk_drew ?_ | refine blk_alloc ?_ _)); exact BK192.out) hb)
                      have n2_ := Aside0.mk (blk_below (g := gb193) (o := .cells #[.int .i64 a2_0, .int .i64 a2_1] 25 (0, 0)) (by (with_reducible repeat (first | refine blk_drewN ?_ _ | refine blk_drew ?_ | refine blk_alloc ?_ _)); exact BK193.out) hb)
                      have n3_ := Aside0.mk (below_step (by repeat (first | (with_reducible first | exact HB.out | apply below_alloc | apply pw_below_drewN | apply below_drew1 | refine below_set ?_ GE191.out | refine below_set ?_ GE192.out | refine below_set ?_ GE193.out) | exact HB.out)) hb)
                      have n4_ := Aside0.mk (hbox)
                      have n5_ := Aside0.mk ((by rw [hg]; exact (below_size (by repeat (first | (with_reducible first | exact HB.out | apply below_alloc | apply pw_below_drewN | apply below_drew1 | refine below_set ?_ GE191.out | refine below_set ?_ GE192.out | refine below_set ?_ GE193.out) | exact HB.out))) : w.heap.size ≤ gb199))
                      have n6_ := Aside0.mk ((by rw [hg]; exact (below_size (by repeat (first | (with_reducible first | exact HB.out | apply below_alloc | apply pw_below_drewN | apply below_drew1 | refine below_set ?_ GE191.out | refine below_set ?_ GE192.out | refine below_set ?_ GE193.out) | exact HB.out))) : w.heap.size ≤ gb199))
                      have n7_ := Aside0.mk ((by rw [hg]; exact Nat.ne_of_lt (blk_lt (g := gb191) (o := .cells #[.int .i64 a0_0, .int .i64 a0_1] 25 (0, 0)) (by (with_reducible repeat (first | refine blk_drewN ?_ _ | refine blk_drew ?_ | refine blk_alloc ?_ _)); exact BK191.out)) : gb191 ≠ gb199))
                      have n8_ := Aside0.mk ((by rw [hg]; exact Nat.ne_of_gt (blk_lt (g := gb191) (o := .cells #[.int .i64 a0_0, .int .i64 a0_1] 25 (0, 0)) (by (with_reducible repeat (first | refine blk_drewN ?_ _ | refine blk_drew ?_ | refine blk_alloc ?_ _)); exact BK191.out)) : gb199 ≠ gb191))
                      have n9_ := Aside0.mk ((by rw [hg]; exact Nat.ne_of_lt (blk_lt (g := gb192) (o := .cells #[.int .i64 a1_0, .int .i64 a1_1] 25 (0, 0)) (by (with_reducible repeat (first | refine blk_drewN ?_ _ | refine blk_drew ?_ | refine blk_alloc ?_ _)); exact BK192.out)) : gb192 ≠ gb199))
                      have n10_ := Aside0.mk ((by rw [hg]; exact Nat.ne_of_gt (blk_lt (g := gb192) (o := .cells #[.int .i64 a1_0, .int .i64 a1_1] 25 (0, 0)) (by (with_reducible repeat (first | refine blk_drewN ?_ _ | refine blk_drew ?_ | refine blk_alloc ?_ _)); exact BK192.out)) : gb199 ≠ gb192))
                      have n11_ := Aside0.mk ((by rw [hg]; exact Nat.ne_of_lt (blk_lt (g := gb193) (o := .cells #[.int .i64 a2_0, .int .i64 a2_1] 25 (0, 0)) (by (with_reducible repeat (first | refine blk_drewN ?_ _ | refine blk_drew ?_ | refine blk_alloc ?_ _)); exact BK193.out)) : gb193 ≠ gb199))
                      have n12_ := Aside0.mk ((by rw [hg]; exact Nat.ne_of_gt (blk_lt (g := gb193) (o := .cells #[.int .i64 a2_0, .int .i64 a2_1] 25 (0, 0)) (by (with_reducible repeat (first | refine blk_drewN ?_ _ | refine blk_drew ?_ | refine blk_alloc ?_ _)); exact BK193.out)) : gb199 ≠ gb193))
                      clear BK191; clear BK192; clear BK193; clear HB; have BK191 := n0_; have BK192 := n1_; have BK193 := n2_; have HB := n3_; have BK199 := n4_; have GW199 := n5_; have GE199 := n6_; have NB191_199 := n7_; have NB199_191 := n8_; have NB192_199 := n9_; have NB199_192 := n10_; have NB193_199 := n11_; have NB199_193 := n12_; clear n0_ n1_ n2_ n3_ n4_ n5_ n6_ n7_ n8_ n9_ n10_ n11_ n12_; clear hb hbox hg
                      refine hK.out _ _ ⟨(blk_cell BK192.out 0).trans rfl, (blk_cell BK192.out 1).trans rfl, (blk_cell BK191.out 0).trans rfl, (blk_cell BK191.out 1).trans rfl, (blk_cell BK193.out 0).trans rfl, (blk_cell BK193.out 1).trans rfl⟩ (fun hHeld => ?_)
                      clear hK K
                      refine norm_ (a' := ?_) ?_ ?_
                      rotate_left
                      · show Act.put _ (some 10) _ = _
                        simp only [Act.put, List.setIfInBounds_toArray, List.set_cons_zero, List.set_cons_succ, i64_w, i32_w]; rfl
                      exact norm_ (by first | (simp only [putAll, Act.put, List.setIfInBounds_toArray, List.set_cons_zero, List.set_cons_succ]; done) | (simp only [putAll, Act.put, List.setIfInBounds_toArray, List.set_cons_zero, List.set_cons_succ]; rfl)) (hJ2_7 (gb199) _ ⟨hHeld, (by (with_reducible repeat (first | refine blk_drewN ?_ _ | refine blk_drew ?_ | refine blk_alloc ?_ _)); exact BK191.out), (by (with_reducible repeat (first | refine blk_drewN ?_ _ | refine blk_drew ?_ | refine blk_alloc ?_ _)); exact BK192.out), (by (with_reducible repeat (first | refine blk_drewN ?_ _ | refine blk_drew ?_ | refine blk_alloc ?_ _)); exact BK193.out), (by (with_reducible repeat (first | refine blk_drewN ?_ _ | refine blk_drew ?_ | refine blk_alloc ?_ _)); exact BK199.out), GW199.out, GE199.out, NB191_199.out, NB199_191.out, NB192_199.out, NB199_192.out, NB193_199.out, NB199_193.out, (by repeat (first | (with_reducible first | exact HB.out | apply below_alloc | apply pw_below_drewN | apply below_drew1 | refine below_set ?_ GE191.out | refine below_set ?_ GE192.out | refine below_set ?_ GE193.out | refine below_set ?_ GE199.out) | exact HB.out))⟩)
                · skip
                  rintro ⟨gb198, gb199⟩ wza4 ⟨hS_, h0_, h1_, h2_, h3_, h4_, h5_, h6_, h7_, h8_, h9_, h10_, h11_, h12_, h13_, h14_, h15_, h16_, h17_, h18_, h19_, h20_, h21_, h22_, h23_⟩
                  have n0_ : Aside0 (wza4.heap[gb191]? = some (.cells #[.int .i64 a0_0, .int .i64 a0_1] 25 (0, 0))) := ⟨h0_⟩
                  have n1_ : Aside0 (wza4.heap[gb192]? = some (.cells #[.int .i64 a1_0, .int .i64 a1_1] 25 (0, 0))) := ⟨h1_⟩
                  have n2_ : Aside0 (wza4.heap[gb193]? = some (.cells #[.int .i64 a2_0, .int .i64 a2_1] 25 (0, 0))) := ⟨h2_⟩
                  have n3_ : Aside0 (wza4.heap[gb198]? = some (.cells #[.int .i64 0, .int .i64 0] 25 (0, 0))) := ⟨h3_⟩
                  have n4_ : Aside0 (wza4.heap[gb199]? = some (.cells #[.int .i64 0, .int .i64 0] 25 (0, 0))) := ⟨h4_⟩
                  have n5_ : Aside0 (w.heap.size ≤ gb198) := ⟨h5_⟩
                  have n6_ : Aside0 (w.heap.size ≤ gb198) := ⟨h6_⟩
                  have n7_ : Aside0 (gb191 ≠ gb198) := ⟨h7_⟩
                  have n8_ : Aside0 (gb198 ≠ gb191) := ⟨h8_⟩
                  have n9_ : Aside0 (gb192 ≠ gb198) := ⟨h9_⟩
                  have n10_ : Aside0 (gb198 ≠ gb192) := ⟨h10_⟩
                  have n11_ : Aside0 (gb193 ≠ gb198) := ⟨h11_⟩
                  have n12_ : Aside0 (gb198 ≠ gb193) := ⟨h12_⟩
                  have n13_ : Aside0 (gb199 ≠ gb198) := ⟨h13_⟩
                  have n14_ : Aside0 (gb198 ≠ gb199) := ⟨h14_⟩
                  have n15_ : Aside0 (w.heap.size ≤ gb199) := ⟨h15_⟩
                  have n16_ : Aside0 (w.heap.size ≤ gb199) := ⟨h16_⟩
                  have n17_ : Aside0 (gb191 ≠ gb199) := ⟨h17_⟩
                  have n18_ : Aside0 (gb199 ≠ gb191) := ⟨h18_⟩
                  have n19_ : Aside0 (gb192 ≠ gb199) := ⟨h19_⟩
                  have n20_ : Aside0 (gb199 ≠ gb192) := ⟨h20_⟩
                  have n21_ : Aside0 (gb193 ≠ gb199) := ⟨h21_⟩
                  have n22_ : Aside0 (gb199 ≠ gb193) := ⟨h22_⟩
                  have n23_ : Aside0 (Below w.heap.size w wza4) := ⟨h23_⟩
                  clear BK191; clear BK192; clear BK193; clear HB; clear h0_ h1_ h2_ h3_ h4_ h5_ h6_ h7_ h8_ h9_ h10_ h11_ h12_ h13_ h14_ h15_ h16_ h17_ h18_ h19_ h20_ h21_ h22_ h23_; have BK191 := n0_; have BK192 := n1_; have BK193 := n2_; have BK198 := n3_; have BK199 := n4_; have GW198 := n5_; have GE198 := n6_; have NB191_198 := n7_; have NB198_191 := n8_; have NB192_198 := n9_; have NB198_192 := n10_; have NB193_198 := n11_; have NB198_193 := n12_; have NB199_198 := n13_; have NB198_199 := n14_; have GW199 := n15_; have GE199 := n16_; have NB191_199 := n17_; have NB199_191 := n18_; have NB192_199 := n19_; have NB199_192 := n20_; have NB193_199 := n21_; have NB199_193 := n22_; have HB := n23_; clear n0_ n1_ n2_ n3_ n4_ n5_ n6_ n7_ n8_ n9_ n10_ n11_ n12_ n13_ n14_ n15_ n16_ n17_ n18_ n19_ n20_ n21_ n22_ n23_
                  have hHeld : wza4.cell? ⟨gb192, 0, none⟩ = some (.int .i64 a1_0) ∧ wza4.cell? ⟨gb192, 1, none⟩ = some (.int .i64 a1_1) ∧ wza4.cell? ⟨gb191, 0, none⟩ = some (.int .i64 a0_0) ∧ wza4.cell? ⟨gb191, 1, none⟩ = some (.int .i64 a0_1) ∧ wza4.cell? ⟨gb193, 0, none⟩ = some (.int .i64 a2_0) ∧ wza4.cell? ⟨gb193, 1, none⟩ = some (.int .i64 a2_1) := hS_
                  refine norm_ (a' := ?_) ?_ ?_
                  rotate_left
                  · simp only [putAll, Act.put, List.setIfInBounds_toArray, List.set_cons_zero, List.set_cons_succ]; rfl
                  refine one_ (i := 2) (N := some 15) #[true, true, true, true, true, false, true, true, false, false] rfl rfl (one_of HT_.out (by kernel_rfl)) (by decide) (fun K hK => ?_)
                  refine goes_ Try.func53 (by kernel_rfl) rfl #[.agg #[.int .i64 a1_0, .int .i64 a1_1], .agg #[.int .i64 a0_0, .int .i64 a0_1]] (by rfl) rfl rfl (by (try simp only [List.map_toArray, List.map_cons, List.map_nil]); first | done | rfl | (simp only [List.length_drop, List.length_take]; rfl)) ?_
                  with_reducible refine (plane_Sub.calls a1_0 a1_1 a0_0 a0_1 t194 t195 _ A5.out).mono ?_
                  rintro e wza5 ⟨rfl, hb⟩
                  refine ⟨_, rfl, ?_⟩
                  have n0_ := Aside0.mk (blk_below (g := gb191) (o := .cells #[.int .i64 a0_0, .int .i64 a0_1] 25 (0, 0)) (by (with_reducible repeat (first | refine blk_drewN ?_ _ | refine blk_drew ?_ | refine blk_alloc ?_ _)); exact BK191.out) hb)
                  have n1_ := Aside0.mk (blk_below (g := gb192) (o := .cells #[.int .i64 a1_0, .int .i64 a1_1] 25 (0, 0)) (by (with_reducible repeat (first | refine blk_drewN ?_ _ | refine blk_drew ?_ | refine blk_alloc ?_ _)); exact BK192.out) hb)
                  have n2_ := Aside0.mk (blk_below (g := gb193) (o := .cells #[.int .i64 a2_0, .int .i64 a2_1] 25 (0, 0)) (by (with_reducible repeat (first | refine blk_drewN ?_ _ | refine blk_drew ?_ | refine blk_alloc ?_ _)); exact BK193.out) hb)
                  have n3_ := Aside0.mk (blk_below (g := gb198) (o := .cells #[.int .i64 0, .int .i64 0] 25 (0, 0)) (by (with_reducible repeat (first | refine blk_drewN ?_ _ | refine blk_drew ?_ | refine blk_alloc ?_ _)); exact BK198.out) hb)
                  have n4_ := Aside0.mk (blk_below (g := gb199) (o := .cells #[.int .i64 0, .int .i64 0] 25 (0, 0)) (by (with_reducible repeat (first | refine blk_drewN ?_ _ | refine blk_drew ?_ | refine blk_alloc ?_ _)); exact BK199.out) hb)
                  have n5_ := Aside0.mk (below_step (by repeat (first | (with_reducible first | exact HB.out | apply below_alloc | apply pw_below_drewN | apply below_drew1 | refine below_set ?_ GE191.out | refine below_set ?_ GE192.out | refine below_set ?_ GE193.out | refine below_set ?_ GE198.out | refine below_set ?_ GE199.out) | exact HB.out)) hb)
                  clear BK191; clear BK192; clear BK193; clear BK198; clear BK199; clear HB; have BK191 := n0_; have BK192 := n1_; have BK193 := n2_; have BK198 := n3_; have BK199 := n4_; have HB := n5_; clear n0_ n1_ n2_ n3_ n4_ n5_
                  (try clear hb)
                  (try clear hb2)
                  (try clear hk)
                  (try clear hi)
                  refine hK.out _ _ ⟨(blk_cell BK192.out 0).trans rfl, (blk_cell BK192.out 1).trans rfl, (blk_cell BK191.out 0).trans rfl, (blk_cell BK191.out 1).trans rfl, (blk_cell BK193.out 0).trans rfl, (blk_cell BK193.out 1).trans rfl⟩ (fun hHeld => ?_)
                  clear hK K
                  refine norm_ (a' := ?_) ?_ ?_
                  rotate_left
                  · show Act.put _ (some 15) _ = _
                    simp only [Act.put, List.setIfInBounds_toArray, List.set_cons_zero, List.set_cons_succ, i64_w, i32_w]; rfl
                  exact norm_ (by first | (simp only [putAll, Act.put, List.setIfInBounds_toArray, List.set_cons_zero, List.set_cons_succ]; done) | (simp only [putAll, Act.put, List.setIfInBounds_toArray, List.set_cons_zero, List.set_cons_succ]; rfl)) (hJ2_6_7 (gb198, gb199) _ ⟨hHeld, (by (with_reducible repeat (first | refine blk_drewN ?_ _ | refine blk_drew ?_ | refine blk_alloc ?_ _)); exact BK191.out), (by (with_reducible repeat (first | refine blk_drewN ?_ _ | refine blk_drew ?_ | refine blk_alloc ?_ _)); exact BK192.out), (by (with_reducible repeat (first | refine blk_drewN ?_ _ | refine blk_drew ?_ | refine blk_alloc ?_ _)); exact BK193.out), (by (with_reducible repeat (first | refine blk_drewN ?_ _ | refine blk_drew ?_ | refine blk_alloc ?_ _)); exact BK198.out), (by (with_reducible repeat (first | refine blk_drewN ?_ _ | refine blk_drew ?_ | refine blk_alloc ?_ _)); exact BK199.out), GW198.out, GE198.out, NB191_198.out, NB198_191.out, NB192_198.out, NB198_192.out, NB193_198.out, NB198_193.out, NB199_198.out, NB198_199.out, GW199.out, GE199.out, NB191_199.out, NB199_191.out, NB192_199.out, NB199_192.out, NB193_199.out, NB199_193.out, (by repeat (first | (with_reducible first | exact HB.out | apply below_alloc | apply pw_below_drewN | apply below_drew1 | refine below_set ?_ GE191.out | refine below_set ?_ GE192.out | refine below_set ?_ GE193.out | refine below_set ?_ GE198.out | refine below_set ?_ GE199.out) | exact HB.out))⟩)
              · skip
                rintro gb199 wza4 ⟨hS_, h0_, h1_, h2_, h3_, h4_, h5_, h6_, h7_, h8_, h9_, h10_, h11_, h12_⟩
                have n0_ : Aside0 (wza4.heap[gb191]? = some (.cells #[.int .i64 a0_0, .int .i64 a0_1] 25 (0, 0))) := ⟨h0_⟩
                have n1_ : Aside0 (wza4.heap[gb192]? = some (.cells #[.int .i64 a1_0, .int .i64 a1_1] 25 (0, 0))) := ⟨h1_⟩
                have n2_ : Aside0 (wza4.heap[gb193]? = some (.cells #[.int .i64 a2_0, .int .i64 a2_1] 25 (0, 0))) := ⟨h2_⟩
                have n3_ : Aside0 (wza4.heap[gb199]? = some (.cells #[.int .i64 0, .int .i64 0] 25 (0, 0))) := ⟨h3_⟩
                have n4_ : Aside0 (w.heap.size ≤ gb199) := ⟨h4_⟩
                have n5_ : Aside0 (w.heap.size ≤ gb199) := ⟨h5_⟩
                have n6_ : Aside0 (gb191 ≠ gb199) := ⟨h6_⟩
                have n7_ : Aside0 (gb199 ≠ gb191) := ⟨h7_⟩
                have n8_ : Aside0 (gb192 ≠ gb199) := ⟨h8_⟩
                have n9_ : Aside0 (gb199 ≠ gb192) := ⟨h9_⟩
                have n10_ : Aside0 (gb193 ≠ gb199) := ⟨h10_⟩
                have n11_ : Aside0 (gb199 ≠ gb193) := ⟨h11_⟩
                have n12_ : Aside0 (Below w.heap.size w wza4) := ⟨h12_⟩
                clear BK191; clear BK192; clear BK193; clear HB; clear h0_ h1_ h2_ h3_ h4_ h5_ h6_ h7_ h8_ h9_ h10_ h11_ h12_; have BK191 := n0_; have BK192 := n1_; have BK193 := n2_; have BK199 := n3_; have GW199 := n4_; have GE199 := n5_; have NB191_199 := n6_; have NB199_191 := n7_; have NB192_199 := n8_; have NB199_192 := n9_; have NB193_199 := n10_; have NB199_193 := n11_; have HB := n12_; clear n0_ n1_ n2_ n3_ n4_ n5_ n6_ n7_ n8_ n9_ n10_ n11_ n12_
                have hHeld : wza4.cell? ⟨gb192, 0, none⟩ = some (.int .i64 a1_0) ∧ wza4.cell? ⟨gb192, 1, none⟩ = some (.int .i64 a1_1) ∧ wza4.cell? ⟨gb191, 0, none⟩ = some (.int .i64 a0_0) ∧ wza4.cell? ⟨gb191, 1, none⟩ = some (.int .i64 a0_1) ∧ wza4.cell? ⟨gb193, 0, none⟩ = some (.int .i64 a2_0) ∧ wza4.cell? ⟨gb193, 1, none⟩ = some (.int .i64 a2_1) := hS_
                refine norm_ (a' := ?_) ?_ ?_
                rotate_left
                · simp only [putAll, Act.put, List.setIfInBounds_toArray, List.set_cons_zero, List.set_cons_succ]; rfl
                refine two_ (i := 5) (j := 6) (Ni := some 18) (Nj := some 9) #[true, true, true, true, true, true, false, true, false, false] #[true, true, true, true, true, false, true, true, false, false] rfl rfl rfl rfl (two_of HT_.out (by kernel_rfl)) (by decide) (by decide) (fun K hK => ?_) (fun K hK => ?_)
                · skip
                  refine goes_ Try.func53 (by kernel_rfl) rfl #[.agg #[.int .i64 a2_0, .int .i64 a2_1], .agg #[.int .i64 a0_0, .int .i64 a0_1]] (by rfl) rfl rfl (by (try simp only [List.map_toArray, List.map_cons, List.map_nil]); first | done | rfl | (simp only [List.length_drop, List.length_take]; rfl)) ?_
                  with_reducible refine (plane_Sub.calls a2_0 a2_1 a0_0 a0_1 t196 t197 _ A6.out).mono ?_
                  rintro e wza5 ⟨rfl, hb⟩
                  refine ⟨_, rfl, ?_⟩
                  have n0_ := Aside0.mk (blk_below (g := gb191) (o := .cells #[.int .i64 a0_0, .int .i64 a0_1] 25 (0, 0)) (by (with_reducible repeat (first | refine blk_drewN ?_ _ | refine blk_drew ?_ | refine blk_alloc ?_ _)); exact BK191.out) hb)
                  have n1_ := Aside0.mk (blk_below (g := gb192) (o := .cells #[.int .i64 a1_0, .int .i64 a1_1] 25 (0, 0)) (by (with_reducible repeat (first | refine blk_drewN ?_ _ | refine blk_drew ?_ | refine blk_alloc ?_ _)); exact BK192.out) hb)
                  have n2_ := Aside0.mk (blk_below (g := gb193) (o := .cells #[.int .i64 a2_0, .int .i64 a2_1] 25 (0, 0)) (by (with_reducible repeat (first | refine blk_drewN ?_ _ | refine blk_drew ?_ | refine blk_alloc ?_ _)); exact BK193.out) hb)
                  have n3_ := Aside0.mk (blk_below (g := gb199) (o := .cells #[.int .i64 0, .int .i64 0] 25 (0, 0)) (by (with_reducible repeat (first | refine blk_drewN ?_ _ | refine blk_drew ?_ | refine blk_alloc ?_ _)); exact BK199.out) hb)
                  have n4_ := Aside0.mk (below_step (by repeat (first | (with_reducible first | exact HB.out | apply below_alloc | apply pw_below_drewN | apply below_drew1 | refine below_set ?_ GE191.out | refine below_set ?_ GE192.out | refine below_set ?_ GE193.out | refine below_set ?_ GE199.out) | exact HB.out)) hb)
                  clear BK191; clear BK192; clear BK193; clear BK199; clear HB; have BK191 := n0_; have BK192 := n1_; have BK193 := n2_; have BK199 := n3_; have HB := n4_; clear n0_ n1_ n2_ n3_ n4_
                  (try clear hb)
                  (try clear hb2)
                  (try clear hk)
                  (try clear hi)
                  refine hK.out _ _ ⟨(blk_cell BK192.out 0).trans rfl, (blk_cell BK192.out 1).trans rfl, (blk_cell BK191.out 0).trans rfl, (blk_cell BK191.out 1).trans rfl, (blk_cell BK193.out 0).trans rfl, (blk_cell BK193.out 1).trans rfl⟩ (fun hHeld => ?_)
                  clear hK K
                  refine norm_ (a' := ?_) ?_ ?_
                  rotate_left
                  · show Act.put _ (some 18) _ = _
                    simp only [Act.put, List.setIfInBounds_toArray, List.set_cons_zero, List.set_cons_succ, i64_w, i32_w]; rfl
                  exact norm_ (by first | (simp only [putAll, Act.put, List.setIfInBounds_toArray, List.set_cons_zero, List.set_cons_succ]; done) | (simp only [putAll, Act.put, List.setIfInBounds_toArray, List.set_cons_zero, List.set_cons_succ]; rfl)) (hJ2_5_7 (gb199) _ ⟨hHeld, (by (with_reducible repeat (first | refine blk_drewN ?_ _ | refine blk_drew ?_ | refine blk_alloc ?_ _)); exact BK191.out), (by (with_reducible repeat (first | refine blk_drewN ?_ _ | refine blk_drew ?_ | refine blk_alloc ?_ _)); exact BK192.out), (by (with_reducible repeat (first | refine blk_drewN ?_ _ | refine blk_drew ?_ | refine blk_alloc ?_ _)); exact BK193.out), (by (with_reducible repeat (first | refine blk_drewN ?_ _ | refine blk_drew ?_ | refine blk_alloc ?_ _)); exact BK199.out), GW199.out, GE199.out, NB191_199.out, NB199_191.out, NB192_199.out, NB199_192.out, NB193_199.out, NB199_193.out, (by repeat (first | (with_reducible first | exact HB.out | apply below_alloc | apply pw_below_drewN | apply below_drew1 | refine below_set ?_ GE191.out | refine below_set ?_ GE192.out | refine below_set ?_ GE193.out | refine below_set ?_ GE199.out) | exact HB.out))⟩)
                · skip
                  refine box_step ?hg (N := 9) ?hd (cs := #[.int .i64 0, .int .i64 0]) (t := 25) ?hr ?_; (case hd => rfl); (case hg => rfl); (case hr => first | (go_simp; done) | (go_simp; rfl))
                  intro gb198 hg wza5 hbox hb
                  have n0_ := Aside0.mk (blk_below (g := gb191) (o := .cells #[.int .i64 a0_0, .int .i64 a0_1] 25 (0, 0)) (by (with_reducible repeat (first | refine blk_drewN ?_ _ | refine blk_drew ?_ | refine blk_alloc ?_ _)); exact BK191.out) hb)
                  have n1_ := Aside0.mk (blk_below (g := gb192) (o := .cells #[.int .i64 a1_0, .int .i64 a1_1] 25 (0, 0)) (by (with_reducible repeat (first | refine blk_drewN ?_ _ | refine blk_drew ?_ | refine blk_alloc ?_ _)); exact BK192.out) hb)
                  have n2_ := Aside0.mk (blk_below (g := gb193) (o := .cells #[.int .i64 a2_0, .int .i64 a2_1] 25 (0, 0)) (by (with_reducible repeat (first | refine blk_drewN ?_ _ | refine blk_drew ?_ | refine blk_alloc ?_ _)); exact BK193.out) hb)
                  have n3_ := Aside0.mk (blk_below (g := gb199) (o := .cells #[.int .i64 0, .int .i64 0] 25 (0, 0)) (by (with_reducible repeat (first | refine blk_drewN ?_ _ | refine blk_drew ?_ | refine blk_alloc ?_ _)); exact BK199.out) hb)
                  have n4_ := Aside0.mk (below_step (by repeat (first | (with_reducible first | exact HB.out | apply below_alloc | apply pw_below_drewN | apply below_drew1 | refine below_set ?_ GE191.out | refine below_set ?_ GE192.out | refine below_set ?_ GE193.out | refine below_set ?_ GE199.out) | exact HB.out)) hb)
                  have n5_ := Aside0.mk (hbox)
                  have n6_ := Aside0.mk ((by rw [hg]; exact (below_size (by repeat (first | (with_reducible first | exact HB.out | apply below_alloc | apply pw_below_drewN | apply below_drew1 | refine below_set ?_ GE191.out | refine below_set ?_ GE192.out | refine below_set ?_ GE193.out | refine below_set ?_ GE199.out) | exact HB.out))) : w.heap.size ≤ gb198))
                  have n7_ := Aside0.mk ((by rw [hg]; exact (below_size (by repeat (first | (with_reducible first | exact HB.out | apply below_alloc | apply pw_below_drewN | apply below_drew1 | refine below_set ?_ GE191.out | refine below_set ?_ GE192.out | refine below_set ?_ GE193.out | refine below_set ?_ GE199.out) | exact HB.out))) : w.heap.size ≤ gb198))
                  have n8_ := Aside0.mk ((by rw [hg]; exact Nat.ne_of_lt (blk_lt (g := gb191) (o := .cells #[.int .i64 a0_0, .int .i64 a0_1] 25 (0, 0)) (by (with_reducible repeat (first | refine blk_drewN ?_ _ | refine blk_drew ?_ | refine blk_alloc ?_ _)); exact BK191.out)) : gb191 ≠ gb198))
                  have n9_ := Aside0.mk ((by rw [hg]; exact Nat.ne_of_gt (blk_lt (g := gb191) (o := .cells #[.int .i64 a0_0, .int .i64 a0_1] 25 (0, 0)) (by (with_reducible repeat (first | refine blk_drewN ?_ _ | refine blk_drew ?_ | refine blk_alloc ?_ _)); exact BK191.out)) : gb198 ≠ gb191))
                  have n10_ := Aside0.mk ((by rw [hg]; exact Nat.ne_of_lt (blk_lt (g := gb192) (o := .cells #[.int .i64 a1_0, .int .i64 a1_1] 25 (0, 0)) (by (with_reducible repeat (first | refine blk_drewN ?_ _ | refine blk_drew ?_ | refine blk_alloc ?_ _)); exact BK192.out)) : gb192 ≠ gb198))
                  have n11_ := Aside0.mk ((by rw [hg]; exact Nat.ne_of_gt (blk_lt (g := gb192) (o := .cells #[.int .i64 a1_0, .int .i64 a1_1] 25 (0, 0)) (by (with_reducible repeat (first | refine blk_drewN ?_ _ | refine blk_drew ?_ | refine blk_alloc ?_ _)); exact BK192.out)) : gb198 ≠ gb192))
                  have n12_ := Aside0.mk ((by rw [hg]; exact Nat.ne_of_lt (blk_lt (g := gb193) (o := .cells #[.int .i64 a2_0, .int .i64 a2_1] 25 (0, 0)) (by (with_reducible repeat (first | refine blk_drewN ?_ _ | refine blk_drew ?_ | refine blk_alloc ?_ _)); exact BK193.out)) : gb193 ≠ gb198))
                  have n13_ := Aside0.mk ((by rw [hg]; exact Nat.ne_of_gt (blk_lt (g := gb193) (o := .cells #[.int .i64 a2_0, .int .i64 a2_1] 25 (0, 0)) (by (with_reducible repeat (first | refine blk_drewN ?_ _ | refine blk_drew ?_ | refine blk_alloc ?_ _)); exact BK193.out)) : gb198 ≠ gb193))
                  have n14_ := Aside0.mk ((by rw [hg]; exact Nat.ne_of_lt (blk_lt (g := gb199) (o := .cells #[.int .i64 0, .int .i64 0] 25 (0, 0)) (by (with_reducible repeat (first | refine blk_drewN ?_ _ | refine blk_drew ?_ | refine blk_alloc ?_ _)); exact BK199.out)) : gb199 ≠ gb198))
                  have n15_ := Aside0.mk ((by rw [hg]; exact Nat.ne_of_gt (blk_lt (g := gb199) (o := .cells #[.int .i64 0, .int .i64 0] 25 (0, 0)) (by (with_reducible repeat (first | refine blk_drewN ?_ _ | refine blk_drew ?_ | refine blk_alloc ?_ _)); exact BK199.out)) : gb198 ≠ gb199))
                  clear BK191; clear BK192; clear BK193; clear BK199; clear HB; have BK191 := n0_; have BK192 := n1_; have BK193 := n2_; have BK199 := n3_; have HB := n4_; have BK198 := n5_; have GW198 := n6_; have GE198 := n7_; have NB191_198 := n8_; have NB198_191 := n9_; have NB192_198 := n10_; have NB198_192 := n11_; have NB193_198 := n12_; have NB198_193 := n13_; have NB199_198 := n14_; have NB198_199 := n15_; clear n0_ n1_ n2_ n3_ n4_ n5_ n6_ n7_ n8_ n9_ n10_ n11_ n12_ n13_ n14_ n15_; clear hb hbox hg
                  refine hK.out _ _ ⟨(blk_cell BK192.out 0).trans rfl, (blk_cell BK192.out 1).trans rfl, (blk_cell BK191.out 0).trans rfl, (blk_cell BK191.out 1).trans rfl, (blk_cell BK193.out 0).trans rfl, (blk_cell BK193.out 1).trans rfl⟩ (fun hHeld => ?_)
                  clear hK K
                  refine norm_ (a' := ?_) ?_ ?_
                  rotate_left
                  · show Act.put _ (some 9) _ = _
                    simp only [Act.put, List.setIfInBounds_toArray, List.set_cons_zero, List.set_cons_succ, i64_w, i32_w]; rfl
                  exact norm_ (by first | (simp only [putAll, Act.put, List.setIfInBounds_toArray, List.set_cons_zero, List.set_cons_succ]; done) | (simp only [putAll, Act.put, List.setIfInBounds_toArray, List.set_cons_zero, List.set_cons_succ]; rfl)) (hJ2_6_7 (gb198, gb199) _ ⟨hHeld, (by (with_reducible repeat (first | refine blk_drewN ?_ _ | refine blk_drew ?_ | refine blk_alloc ?_ _)); exact BK191.out), (by (with_reducible repeat (first | refine blk_drewN ?_ _ | refine blk_drew ?_ | refine blk_alloc ?_ _)); exact BK192.out), (by (with_reducible repeat (first | refine blk_drewN ?_ _ | refine blk_drew ?_ | refine blk_alloc ?_ _)); exact BK193.out), (by (with_reducible repeat (first | refine blk_drewN ?_ _ | refine blk_drew ?_ | refine blk_alloc ?_ _)); exact BK198.out), (by (with_reducible repeat (first | refine blk_drewN ?_ _ | refine blk_drew ?_ | refine blk_alloc ?_ _)); exact BK199.out), GW198.out, GE198.out, NB191_198.out, NB198_191.out, NB192_198.out, NB198_192.out, NB193_198.out, NB198_193.out, NB199_198.out, NB198_199.out, GW199.out, GE199.out, NB191_199.out, NB199_191.out, NB192_199.out, NB199_192.out, NB193_199.out, NB199_193.out, (by repeat (first | (with_reducible first | exact HB.out | apply below_alloc | apply pw_below_drewN | apply below_drew1 | refine below_set ?_ GE191.out | refine below_set ?_ GE192.out | refine below_set ?_ GE193.out | refine below_set ?_ GE199.out | refine below_set ?_ GE198.out) | exact HB.out))⟩)
            · skip
              rintro gb198 wza4 ⟨hS_, h0_, h1_, h2_, h3_, h4_, h5_, h6_, h7_, h8_, h9_, h10_, h11_, h12_⟩
              have n0_ : Aside0 (wza4.heap[gb191]? = some (.cells #[.int .i64 a0_0, .int .i64 a0_1] 25 (0, 0))) := ⟨h0_⟩
              have n1_ : Aside0 (wza4.heap[gb192]? = some (.cells #[.int .i64 a1_0, .int .i64 a1_1] 25 (0, 0))) := ⟨h1_⟩
              have n2_ : Aside0 (wza4.heap[gb193]? = some (.cells #[.int .i64 a2_0, .int .i64 a2_1] 25 (0, 0))) := ⟨h2_⟩
              have n3_ : Aside0 (wza4.heap[gb198]? = some (.cells #[.int .i64 0, .int .i64 0] 25 (0, 0))) := ⟨h3_⟩
              have n4_ : Aside0 (w.heap.size ≤ gb198) := ⟨h4_⟩
              have n5_ : Aside0 (w.heap.size ≤ gb198) := ⟨h5_⟩
              have n6_ : Aside0 (gb191 ≠ gb198) := ⟨h6_⟩
              have n7_ : Aside0 (gb198 ≠ gb191) := ⟨h7_⟩
              have n8_ : Aside0 (gb192 ≠ gb198) := ⟨h8_⟩
              have n9_ : Aside0 (gb198 ≠ gb192) := ⟨h9_⟩
              have n10_ : Aside0 (gb193 ≠ gb198) := ⟨h10_⟩
              have n11_ : Aside0 (gb198 ≠ gb193) := ⟨h11_⟩
              have n12_ : Aside0 (Below w.heap.size w wza4) := ⟨h12_⟩
              clear BK191; clear BK192; clear BK193; clear HB; clear h0_ h1_ h2_ h3_ h4_ h5_ h6_ h7_ h8_ h9_ h10_ h11_ h12_; have BK191 := n0_; have BK192 := n1_; have BK193 := n2_; have BK198 := n3_; have GW198 := n4_; have GE198 := n5_; have NB191_198 := n6_; have NB198_191 := n7_; have NB192_198 := n8_; have NB198_192 := n9_; have NB193_198 := n10_; have NB198_193 := n11_; have HB := n12_; clear n0_ n1_ n2_ n3_ n4_ n5_ n6_ n7_ n8_ n9_ n10_ n11_ n12_
              have hHeld : wza4.cell? ⟨gb192, 0, none⟩ = some (.int .i64 a1_0) ∧ wza4.cell? ⟨gb192, 1, none⟩ = some (.int .i64 a1_1) ∧ wza4.cell? ⟨gb191, 0, none⟩ = some (.int .i64 a0_0) ∧ wza4.cell? ⟨gb191, 1, none⟩ = some (.int .i64 a0_1) ∧ wza4.cell? ⟨gb193, 0, none⟩ = some (.int .i64 a2_0) ∧ wza4.cell? ⟨gb193, 1, none⟩ = some (.int .i64 a2_1) := hS_
              refine norm_ (a' := ?_) ?_ ?_
              rotate_left
              · simp only [putAll, Act.put, List.setIfInBounds_toArray, List.set_cons_zero, List.set_cons_succ]; rfl
              refine two_ (i := 5) (j := 7) (Ni := some 18) (Nj := some 10) #[true, true, true, true, true, true, true, false, false, false] #[true, true, true, true, true, false, true, true, false, false] rfl rfl rfl rfl (two_of HT_.out (by kernel_rfl)) (by decide) (by decide) (fun K hK => ?_) (fun K hK => ?_)
              · skip
                refine goes_ Try.func53 (by kernel_rfl) rfl #[.agg #[.int .i64 a2_0, .int .i64 a2_1], .agg #[.int .i64 a0_0, .int .i64 a0_1]] (by rfl) rfl rfl (by (try simp only [List.map_toArray, List.map_cons, List.map_nil]); first | done | rfl | (simp only [List.length_drop, List.length_take]; rfl)) ?_
                with_reducible refine (plane_Sub.calls a2_0 a2_1 a0_0 a0_1 t196 t197 _ A6.out).mono ?_
                rintro e wza5 ⟨rfl, hb⟩
                refine ⟨_, rfl, ?_⟩
                have n0_ := Aside0.mk (blk_below (g := gb191) (o := .cells #[.int .i64 a0_0, .int .i64 a0_1] 25 (0, 0)) (by (with_reducible repeat (first | refine blk_drewN ?_ _ | refine blk_drew ?_ | refine blk_alloc ?_ _)); exact BK191.out) hb)
                have n1_ := Aside0.mk (blk_below (g := gb192) (o := .cells #[.int .i64 a1_0, .int .i64 a1_1] 25 (0, 0)) (by (with_reducible repeat (first | refine blk_drewN ?_ _ | refine blk_drew ?_ | refine blk_alloc ?_ _)); exact BK192.out) hb)
                have n2_ := Aside0.mk (blk_below (g := gb193) (o := .cells #[.int .i64 a2_0, .int .i64 a2_1] 25 (0, 0)) (by (with_reducible repeat (first | refine blk_drewN ?_ _ | refine blk_drew ?_ | refine blk_alloc ?_ _)); exact BK193.out) hb)
                have n3_ := Aside0.mk (blk_below (g := gb198) (o := .cells #[.int .i64 0, .int .i64 0] 25 (0, 0)) (by (with_reducible repeat (first | refine blk_drewN ?_ _ | refine blk_drew ?_ | refine blk_alloc ?_ _)); exact BK198.out) hb)
                have n4_ := Aside0.mk (below_step (by repeat (first | (with_reducible first | exact HB.out | apply below_alloc | apply pw_below_drewN | apply below_drew1 | refine below_set ?_ GE191.out | refine below_set ?_ GE192.out | refine below_set ?_ GE193.out | refine below_set ?_ GE198.out) | exact HB.out)) hb)
                clear BK191; clear BK192; clear BK193; clear BK198; clear HB; have BK191 := n0_; have BK192 := n1_; have BK193 := n2_; have BK198 := n3_; have HB := n4_; clear n0_ n1_ n2_ n3_ n4_
                (try clear hb)
                (try clear hb2)
                (try clear hk)
                (try clear hi)
                refine hK.out _ _ ⟨(blk_cell BK192.out 0).trans rfl, (blk_cell BK192.out 1).trans rfl, (blk_cell BK191.out 0).trans rfl, (blk_cell BK191.out 1).trans rfl, (blk_cell BK193.out 0).trans rfl, (blk_cell BK193.out 1).trans rfl⟩ (fun hHeld => ?_)
                clear hK K
                refine norm_ (a' := ?_) ?_ ?_
                rotate_left
                · show Act.put _ (some 18) _ = _
                  simp only [Act.put, List.setIfInBounds_toArray, List.set_cons_zero, List.set_cons_succ, i64_w, i32_w]; rfl
                exact norm_ (by first | (simp only [putAll, Act.put, List.setIfInBounds_toArray, List.set_cons_zero, List.set_cons_succ]; done) | (simp only [putAll, Act.put, List.setIfInBounds_toArray, List.set_cons_zero, List.set_cons_succ]; rfl)) (hJ2_5_6 (gb198) _ ⟨hHeld, (by (with_reducible repeat (first | refine blk_drewN ?_ _ | refine blk_drew ?_ | refine blk_alloc ?_ _)); exact BK191.out), (by (with_reducible repeat (first | refine blk_drewN ?_ _ | refine blk_drew ?_ | refine blk_alloc ?_ _)); exact BK192.out), (by (with_reducible repeat (first | refine blk_drewN ?_ _ | refine blk_drew ?_ | refine blk_alloc ?_ _)); exact BK193.out), (by (with_reducible repeat (first | refine blk_drewN ?_ _ | refine blk_drew ?_ | refine blk_alloc ?_ _)); exact BK198.out), GW198.out, GE198.out, NB191_198.out, NB198_191.out, NB192_198.out, NB198_192.out, NB193_198.out, NB198_193.out, (by repeat (first | (with_reducible first | exact HB.out | apply below_alloc | apply pw_below_drewN | apply below_drew1 | refine below_set ?_ GE191.out | refine below_set ?_ GE192.out | refine below_set ?_ GE193.out | refine below_set ?_ GE198.out) | exact HB.out))⟩)
              · skip
                refine box_step ?hg (N := 10) ?hd (cs := #[.int .i64 0, .int .i64 0]) (t := 25) ?hr ?_; (case hd => rfl); (case hg => rfl); (case hr => first | (go_simp; done) | (go_simp; rfl))
                intro gb199 hg wza5 hbox hb
                have n0_ := Aside0.mk (blk_below (g := gb191) (o := .cells #[.int .i64 a0_0, .int .i64 a0_1] 25 (0, 0)) (by (with_reducible repeat (first | refine blk_drewN ?_ _ | refine blk_drew ?_ | refine blk_alloc ?_ _)); exact BK191.out) hb)
                have n1_ := Aside0.mk (blk_below (g := gb192) (o := .cells #[.int .i64 a1_0, .int .i64 a1_1] 25 (0, 0)) (by (with_reducible repeat (first | refine blk_drewN ?_ _ | refine blk_drew ?_ | refine blk_alloc ?_ _)); exact BK192.out) hb)
                have n2_ := Aside0.mk (blk_below (g := gb193) (o := .cells #[.int .i64 a2_0, .int .i64 a2_1] 25 (0, 0)) (by (with_reducible repeat (first | refine blk_drewN ?_ _ | refine blk_drew ?_ | refine blk_alloc ?_ _)); exact BK193.out) hb)
                have n3_ := Aside0.mk (blk_below (g := gb198) (o := .cells #[.int .i64 0, .int .i64 0] 25 (0, 0)) (by (with_reducible repeat (first | refine blk_drewN ?_ _ | refine blk_drew ?_ | refine blk_alloc ?_ _)); exact BK198.out) hb)
                have n4_ := Aside0.mk (below_step (by repeat (first | (with_reducible first | exact HB.out | apply below_alloc | apply pw_below_drewN | apply below_drew1 | refine below_set ?_ GE191.out | refine below_set ?_ GE192.out | refine below_set ?_ GE193.out | refine below_set ?_ GE198.out) | exact HB.out)) hb)
                have n5_ := Aside0.mk (hbox)
                have n6_ := Aside0.mk ((by rw [hg]; exact (below_size (by repeat (first | (with_reducible first | exact HB.out | apply below_alloc | apply pw_below_drewN | apply below_drew1 | refine below_set ?_ GE191.out | refine below_set ?_ GE192.out | refine below_set ?_ GE193.out | refine below_set ?_ GE198.out) | exact HB.out))) : w.heap.size ≤ gb199))
                have n7_ := Aside0.mk ((by rw [hg]; exact (below_size (by repeat (first | (with_reducible first | exact HB.out | apply below_alloc | apply pw_below_drewN | apply below_drew1 | refine below_set ?_ GE191.out | refine below_set ?_ GE192.out | refine below_set ?_ GE193.out | refine below_set ?_ GE198.out) | exact HB.out))) : w.heap.size ≤ gb199))
                have n8_ := Aside0.mk ((by rw [hg]; exact Nat.ne_of_lt (blk_lt (g := gb191) (o := .cells #[.int .i64 a0_0, .int .i64 a0_1] 25 (0, 0)) (by (with_reducible repeat (first | refine blk_drewN ?_ _ | refine blk_drew ?_ | refine blk_alloc ?_ _)); exact BK191.out)) : gb191 ≠ gb199))
                have n9_ := Aside0.mk ((by rw [hg]; exact Nat.ne_of_gt (blk_lt (g := gb191) (o := .cells #[.int .i64 a0_0, .int .i64 a0_1] 25 (0, 0)) (by (with_reducible repeat (first | refine blk_drewN ?_ _ | refine blk_drew ?_ | refine blk_alloc ?_ _)); exact BK191.out)) : gb199 ≠ gb191))
                have n10_ := Aside0.mk ((by rw [hg]; exact Nat.ne_of_lt (blk_lt (g := gb192) (o := .cells #[.int .i64 a1_0, .int .i64 a1_1] 25 (0, 0)) (by (with_reducible repeat (first | refine blk_drewN ?_ _ | refine blk_drew ?_ | refine blk_alloc ?_ _)); exact BK192.out)) : gb192 ≠ gb199))
                have n11_ := Aside0.mk ((by rw [hg]; exact Nat.ne_of_gt (blk_lt (g := gb192) (o := .cells #[.int .i64 a1_0, .int .i64 a1_1] 25 (0, 0)) (by (with_reducible repeat (first | refine blk_drewN ?_ _ | refine blk_drew ?_ | refine blk_alloc ?_ _)); exact BK192.out)) : gb199 ≠ gb192))
                have n12_ := Aside0.mk ((by rw [hg]; exact Nat.ne_of_lt (blk_lt (g := gb193) (o := .cells #[.int .i64 a2_0, .int .i64 a2_1] 25 (0, 0)) (by (with_reducible repeat (first | refine blk_drewN ?_ _ | refine blk_drew ?_ | refine blk_alloc ?_ _)); exact BK193.out)) : gb193 ≠ gb199))
                have n13_ := Aside0.mk ((by rw [hg]; exact Nat.ne_of_gt (blk_lt (g := gb193) (o := .cells #[.int .i64 a2_0, .int .i64 a2_1] 25 (0, 0)) (by (with_reducible repeat (first | refine blk_drewN ?_ _ | refine blk_drew ?_ | refine blk_alloc ?_ _)); exact BK193.out)) : gb199 ≠ gb193))
                have n14_ := Aside0.mk ((by rw [hg]; exact Nat.ne_of_lt (blk_lt (g := gb198) (o := .cells #[.int .i64 0, .int .i64 0] 25 (0, 0)) (by (with_reducible repeat (first | refine blk_drewN ?_ _ | refine blk_drew ?_ | refine blk_alloc ?_ _)); exact BK198.out)) : gb198 ≠ gb199))
                have n15_ := Aside0.mk ((by rw [hg]; exact Nat.ne_of_gt (blk_lt (g := gb198) (o := .cells #[.int .i64 0, .int .i64 0] 25 (0, 0)) (by (with_reducible repeat (first | refine blk_drewN ?_ _ | refine blk_drew ?_ | refine blk_alloc ?_ _)); exact BK198.out)) : gb199 ≠ gb198))
                clear BK191; clear BK192; clear BK193; clear BK198; clear HB; have BK191 := n0_; have BK192 := n1_; have BK193 := n2_; have BK198 := n3_; have HB := n4_; have BK199 := n5_; have GW199 := n6_; have GE199 := n7_; have NB191_199 := n8_; have NB199_191 := n9_; have NB192_199 := n10_; have NB199_192 := n11_; have NB193_199 := n12_; have NB199_193 := n13_; have NB198_199 := n14_; have NB199_198 := n15_; clear n0_ n1_ n2_ n3_ n4_ n5_ n6_ n7_ n8_ n9_ n10_ n11_ n12_ n13_ n14_ n15_; clear hb hbox hg
                refine hK.out _ _ ⟨(blk_cell BK192.out 0).trans rfl, (blk_cell BK192.out 1).trans rfl, (blk_cell BK191.out 0).trans rfl, (blk_cell BK191.out 1).trans rfl, (blk_cell BK193.out 0).trans rfl, (blk_cell BK193.out 1).trans rfl⟩ (fun hHeld => ?_)
                clear hK K
                refine norm_ (a' := ?_) ?_ ?_
                rotate_left
                · show Act.put _ (some 10) _ = _
                  simp only [Act.put, List.setIfInBounds_toArray, List.set_cons_zero, List.set_cons_succ, i64_w, i32_w]; rfl
                exact norm_ (by first | (simp only [putAll, Act.put, List.setIfInBounds_toArray, List.set_cons_zero, List.set_cons_succ]; done) | (simp only [putAll, Act.put, List.setIfInBounds_toArray, List.set_cons_zero, List.set_cons_succ]; rfl)) (hJ2_6_7 (gb198, gb199) _ ⟨hHeld, (by (with_reducible repeat (first | refine blk_drewN ?_ _ | refine blk_drew ?_ | refine blk_alloc ?_ _)); exact BK191.out), (by (with_reducible repeat (first | refine blk_drewN ?_ _ | refine blk_drew ?_ | refine blk_alloc ?_ _)); exact BK192.out), (by (with_reducible repeat (first | refine blk_drewN ?_ _ | refine blk_drew ?_ | refine blk_alloc ?_ _)); exact BK193.out), (by (with_reducible repeat (first | refine blk_drewN ?_ _ | refine blk_drew ?_ | refine blk_alloc ?_ _)); exact BK198.out), (by (with_reducible repeat (first | refine blk_drewN ?_ _ | refine blk_drew ?_ | refine blk_alloc ?_ _)); exact BK199.out), GW198.out, GE198.out, NB191_198.out, NB198_191.out, NB192_198.out, NB198_192.out, NB193_198.out, NB198_193.out, NB199_198.out, NB198_199.out, GW199.out, GE199.out, NB191_199.out, NB199_191.out, NB192_199.out, NB199_192.out, NB193_199.out, NB199_193.out, (by repeat (first | (with_reducible first | exact HB.out | apply below_alloc | apply pw_below_drewN | apply below_drew1 | refine below_set ?_ GE191.out | refine below_set ?_ GE192.out | refine below_set ?_ GE193.out | refine below_set ?_ GE198.out | refine below_set ?_ GE199.out) | exact HB.out))⟩)
          · skip
            rintro _ wza4 ⟨hS_, h0_, h1_, h2_, h3_⟩
            have n0_ : Aside0 (wza4.heap[gb191]? = some (.cells #[.int .i64 a0_0, .int .i64 a0_1] 25 (0, 0))) := ⟨h0_⟩
            have n1_ : Aside0 (wza4.heap[gb192]? = some (.cells #[.int .i64 a1_0, .int .i64 a1_1] 25 (0, 0))) := ⟨h1_⟩
            have n2_ : Aside0 (wza4.heap[gb193]? = some (.cells #[.int .i64 a2_0, .int .i64 a2_1] 25 (0, 0))) := ⟨h2_⟩
            have n3_ : Aside0 (Below w.heap.size w wza4) := ⟨h3_⟩
            clear BK191; clear BK192; clear BK193; clear HB; clear h0_ h1_ h2_ h3_; have BK191 := n0_; have BK192 := n1_; have BK193 := n2_; have HB := n3_; clear n0_ n1_ n2_ n3_
            have hHeld : wza4.cell? ⟨gb192, 0, none⟩ = some (.int .i64 a1_0) ∧ wza4.cell? ⟨gb192, 1, none⟩ = some (.int .i64 a1_1) ∧ wza4.cell? ⟨gb191, 0, none⟩ = some (.int .i64 a0_0) ∧ wza4.cell? ⟨gb191, 1, none⟩ = some (.int .i64 a0_1) ∧ wza4.cell? ⟨gb193, 0, none⟩ = some (.int .i64 a2_0) ∧ wza4.cell? ⟨gb193, 1, none⟩ = some (.int .i64 a2_1) := hS_
            refine norm_ (a' := ?_) ?_ ?_
            rotate_left
            · simp only [putAll, Act.put, List.setIfInBounds_toArray, List.set_cons_zero, List.set_cons_succ]; rfl
            refine two_ (i := 6) (j := 7) (Ni := some 9) (Nj := some 10) #[true, true, true, true, true, true, true, false, false, false] #[true, true, true, true, true, true, false, true, false, false] rfl rfl rfl rfl (two_of HT_.out (by kernel_rfl)) (by decide) (by decide) (fun K hK => ?_) (fun K hK => ?_)
            · skip
              refine box_step ?hg (N := 9) ?hd (cs := #[.int .i64 0, .int .i64 0]) (t := 25) ?hr ?_; (case hd => rfl); (case hg => rfl); (case hr => first | (go_simp; done) | (go_simp; rfl))
              intro gb198 hg wza5 hbox hb
              have n0_ := Aside0.mk (blk_below (g := gb191) (o := .cells #[.int .i64 a0_0, .int .i64 a0_1] 25 (0, 0)) (by (with_reducible repeat (first | refine blk_drewN ?_ _ | refine blk_drew ?_ | refine blk_alloc ?_ _)); exact BK191.out) hb)
              have n1_ := Aside0.mk (blk_below (g := gb192) (o := .cells #[.int .i64 a1_0, .int .i64 a1_1] 25 (0, 0)) (by (with_reducible repeat (first | refine blk_drewN ?_ _ | refine blk_drew ?_ | refine blk_alloc ?_ _)); exact BK192.out) hb)
              have n2_ := Aside0.mk (blk_below (g := gb193) (o := .cells #[.int .i64 a2_0, .int .i64 a2_1] 25 (0, 0)) (by (with_reducible repeat (first | refine blk_drewN ?_ _ | refine blk_drew ?_ | refine blk_alloc ?_ _)); exact BK193.out) hb)
              have n3_ := Aside0.mk (below_step (by repeat (first | (with_reducible first | exact HB.out | apply below_alloc | apply pw_below_drewN | apply below_drew1 | refine below_set ?_ GE191.out | refine below_set ?_ GE192.out | refine below_set ?_ GE193.out) | exact HB.out)) hb)
              have n4_ := Aside0.mk (hbox)
              have n5_ := Aside0.mk ((by rw [hg]; exact (below_size (by repeat (first | (with_reducible first | exact HB.out | apply below_alloc | apply pw_below_drewN | apply below_drew1 | refine below_set ?_ GE191.out | refine below_set ?_ GE192.out | refine below_set ?_ GE193.out) | exact HB.out))) : w.heap.size ≤ gb198))
              have n6_ := Aside0.mk ((by rw [hg]; exact (below_size (by repeat (first | (with_reducible first | exact HB.out | apply below_alloc | apply pw_below_drewN | apply below_drew1 | refine below_set ?_ GE191.out | refine below_set ?_ GE192.out | refine below_set ?_ GE193.out) | exact HB.out))) : w.heap.size ≤ gb198))
              have n7_ := Aside0.mk ((by rw [hg]; exact Nat.ne_of_lt (blk_lt (g := gb191) (o := .cells #[.int .i64 a0_0, .int .i64 a0_1] 25 (0, 0)) (by (with_reducible repeat (first | refine blk_drewN ?_ _ | refine blk_drew ?_ | refine blk_alloc ?_ _)); exact BK191.out)) : gb191 ≠ gb198))
              have n8_ := Aside0.mk ((by rw [hg]; exact Nat.ne_of_gt (blk_lt (g := gb191) (o := .cells #[.int .i64 a0_0, .int .i64 a0_1] 25 (0, 0)) (by (with_reducible repeat (first | refine blk_drewN ?_ _ | refine blk_drew ?_ | refine blk_alloc ?_ _)); exact BK191.out)) : gb198 ≠ gb191))
              have n9_ := Aside0.mk ((by rw [hg]; exact Nat.ne_of_lt (blk_lt (g := gb192) (o := .cells #[.int .i64 a1_0, .int .i64 a1_1] 25 (0, 0)) (by (with_reducible repeat (first | refine blk_drewN ?_ _ | refine blk_drew ?_ | refine blk_alloc ?_ _)); exact BK192.out)) : gb192 ≠ gb198))
              have n10_ := Aside0.mk ((by rw [hg]; exact Nat.ne_of_gt (blk_lt (g := gb192) (o := .cells #[.int .i64 a1_0, .int .i64 a1_1] 25 (0, 0)) (by (with_reducible repeat (first | refine blk_drewN ?_ _ | refine blk_drew ?_ | refine blk_alloc ?_ _)); exact BK192.out)) : gb198 ≠ gb192))
              have n11_ := Aside0.mk ((by rw [hg]; exact Nat.ne_of_lt (blk_lt (g := gb193) (o := .cells #[.int .i64 a2_0, .int .i64 a2_1] 25 (0, 0)) (by (with_reducible repeat (first | refine blk_drewN ?_ _ | refine blk_drew ?_ | refine blk_alloc ?_ _)); exact BK193.out)) : gb193 ≠ gb198))
              have n12_ := Aside0.mk ((by rw [hg]; exact Nat.ne_of_gt (blk_lt (g := gb193) (o := .cells #[.int .i64 a2_0, .int .i64 a2_1] 25 (0, 0)) (by (with_reducible repeat (first | refine blk_drewN ?_ _ | refine blk_drew ?_ | refine blk_alloc ?_ _)); exact BK193.out)) : gb198 ≠ gb193))
              clear BK191; clear BK192; clear BK193; clear HB; have BK191 := n0_; have BK192 := n1_; have BK193 := n2_; have HB := n3_; have BK198 := n4_; have GW198 := n5_; have GE198 := n6_; have NB191_198 := n7_; have NB198_191 := n8_; have NB192_198 := n9_; have NB198_192 := n10_; have NB193_198 := n11_; have NB198_193 := n12_; clear n0_ n1_ n2_ n3_ n4_ n5_ n6_ n7_ n8_ n9_ n10_ n11_ n12_; clear hb hbox hg
              refine hK.out _ _ ⟨(blk_cell BK192.out 0).trans rfl, (blk_cell BK192.out 1).trans rfl, (blk_cell BK191.out 0).trans rfl, (blk_cell BK191.out 1).trans rfl, (blk_cell BK193.out 0).trans rfl, (blk_cell BK193.out 1).trans rfl⟩ (fun hHeld => ?_)
              clear hK K
              refine norm_ (a' := ?_) ?_ ?_
              rotate_left
              · show Act.put _ (some 9) _ = _
                simp only [Act.put, List.setIfInBounds_toArray, List.set_cons_zero, List.set_cons_succ, i64_w, i32_w]; rfl
              exact norm_ (by first | (simp only [putAll, Act.put, List.setIfInBounds_toArray, List.set_cons_zero, List.set_cons_succ]; done) | (simp only [putAll, Act.put, List.setIfInBounds_toArray, List.set_cons_zero, List.set_cons_succ]; rfl)) (hJ2_5_6 (gb198) _ ⟨hHeld, (by (with_reducible repeat (first | refine blk_drewN ?_ _ | refine blk_drew ?_ | refine blk_alloc ?_ _)); exact BK191.out), (by (with_reducible repeat (first | refine blk_drewN ?_ _ | refine blk_drew ?_ | refine blk_alloc ?_ _)); exact BK192.out), (by (with_reducible repeat (first | refine blk_drewN ?_ _ | refine blk_drew ?_ | refine blk_alloc ?_ _)); exact BK193.out), (by (with_reducible repeat (first | refine blk_drewN ?_ _ | refine blk_drew ?_ | refine blk_alloc ?_ _)); exact BK198.out), GW198.out, GE198.out, NB191_198.out, NB198_191.out, NB192_198.out, NB198_192.out, NB193_198.out, NB198_193.out, (by repeat (first | (with_reducible first | exact HB.out | apply below_alloc | apply pw_below_drewN | apply below_drew1 | refine below_set ?_ GE191.out | refine below_set ?_ GE192.out | refine below_set ?_ GE193.out | refine below_set ?_ GE198.out) | exact HB.out))⟩)
            · skip
              refine box_step ?hg (N := 10) ?hd (cs := #[.int .i64 0, .int .i64 0]) (t := 25) ?hr ?_; (case hd => rfl); (case hg => rfl); (case hr => first | (go_simp; done) | (go_simp; rfl))
              intro gb199 hg wza5 hbox hb
              have n0_ := Aside0.mk (blk_below (g := gb191) (o := .cells #[.int .i64 a0_0, .int .i64 a0_1] 25 (0, 0)) (by (with_reducible repeat (first | refine blk_drewN ?_ _ | refine blk_drew ?_ | refine blk_alloc ?_ _)); exact BK191.out) hb)
              have n1_ := Aside0.mk (blk_below (g := gb192) (o := .cells #[.int .i64 a1_0, .int .i64 a1_1] 25 (0, 0)) (by (with_reducible repeat (first | refine blk_drewN ?_ _ | refine blk_drew ?_ | refine blk_alloc ?_ _)); exact BK192.out) hb)
              have n2_ := Aside0.mk (blk_below (g := gb193) (o := .cells #[.int .i64 a2_0, .int .i64 a2_1] 25 (0, 0)) (by (with_reducible repeat (first | refine blk_drewN ?_ _ | refine blk_drew ?_ | refine blk_alloc ?_ _)); exact BK193.out) hb)
              have n3_ := Aside0.mk (below_step (by repeat (first | (with_reducible first | exact HB.out | apply below_alloc | apply pw_below_drewN | apply below_drew1 | refine below_set ?_ GE191.out | refine below_set ?_ GE192.out | refine below_set ?_ GE193.out) | exact HB.out)) hb)
              have n4_ := Aside0.mk (hbox)
              have n5_ := Aside0.mk ((by rw [hg]; exact (below_size (by repeat (first | (with_reducible first | exact HB.out | apply below_alloc | apply pw_below_drewN | apply below_drew1 | refine below_set ?_ GE191.out | refine below_set ?_ GE192.out | refine below_set ?_ GE193.out) | exact HB.out))) : w.heap.size ≤ gb199))
              have n6_ := Aside0.mk ((by rw [hg]; exact (below_size (by repeat (first | (with_reducible first | exact HB.out | apply below_alloc | apply pw_below_drewN | apply below_drew1 | refine below_set ?_ GE191.out | refine below_set ?_ GE192.out | refine below_set ?_ GE193.out) | exact HB.out))) : w.heap.size ≤ gb199))
              have n7_ := Aside0.mk ((by rw [hg]; exact Nat.ne_of_lt (blk_lt (g := gb191) (o := .cells #[.int .i64 a0_0, .int .i64 a0_1] 25 (0, 0)) (by (with_reducible repeat (first | refine blk_drewN ?_ _ | refine blk_drew ?_ | refine blk_alloc ?_ _)); exact BK191.out)) : gb191 ≠ gb199))
              have n8_ := Aside0.mk ((by rw [hg]; exact Nat.ne_of_gt (blk_lt (g := gb191) (o := .cells #[.int .i64 a0_0, .int .i64 a0_1] 25 (0, 0)) (by (with_reducible repeat (first | refine blk_drewN ?_ _ | refine blk_drew ?_ | refine blk_alloc ?_ _)); exact BK191.out)) : gb199 ≠ gb191))
              have n9_ := Aside0.mk ((by rw [hg]; exact Nat.ne_of_lt (blk_lt (g := gb192) (o := .cells #[.int .i64 a1_0, .int .i64 a1_1] 25 (0, 0)) (by (with_reducible repeat (first | refine blk_drewN ?_ _ | refine blk_drew ?_ | refine blk_alloc ?_ _)); exact BK192.out)) : gb192 ≠ gb199))
              have n10_ := Aside0.mk ((by rw [hg]; exact Nat.ne_of_gt (blk_lt (g := gb192) (o := .cells #[.int .i64 a1_0, .int .i64 a1_1] 25 (0, 0)) (by (with_reducible repeat (first | refine blk_drewN ?_ _ | refine blk_drew ?_ | refine blk_alloc ?_ _)); exact BK192.out)) : gb199 ≠ gb192))
              have n11_ := Aside0.mk ((by rw [hg]; exact Nat.ne_of_lt (blk_lt (g := gb193) (o := .cells #[.int .i64 a2_0, .int .i64 a2_1] 25 (0, 0)) (by (with_reducible repeat (first | refine blk_drewN ?_ _ | refine blk_drew ?_ | refine blk_alloc ?_ _)); exact BK193.out)) : gb193 ≠ gb199))
              have n12_ := Aside0.mk ((by rw [hg]; exact Nat.ne_of_gt (blk_lt (g := gb193) (o := .cells #[.int .i64 a2_0, .int .i64 a2_1] 25 (0, 0)) (by (with_reducible repeat (first | refine blk_drewN ?_ _ | refine blk_drew ?_ | refine blk_alloc ?_ _)); exact BK193.out)) : gb199 ≠ gb193))
              clear BK191; clear BK192; clear BK193; clear HB; have BK191 := n0_; have BK192 := n1_; have BK193 := n2_; have HB := n3_; have BK199 := n4_; have GW199 := n5_; have GE199 := n6_; have NB191_199 := n7_; have NB199_191 := n8_; have NB192_199 := n9_; have NB199_192 := n10_; have NB193_199 := n11_; have NB199_193 := n12_; clear n0_ n1_ n2_ n3_ n4_ n5_ n6_ n7_ n8_ n9_ n10_ n11_ n12_; clear hb hbox hg
              refine hK.out _ _ ⟨(blk_cell BK192.out 0).trans rfl, (blk_cell BK192.out 1).trans rfl, (blk_cell BK191.out 0).trans rfl, (blk_cell BK191.out 1).trans rfl, (blk_cell BK193.out 0).trans rfl, (blk_cell BK193.out 1).trans rfl⟩ (fun hHeld => ?_)
              clear hK K
              refine norm_ (a' := ?_) ?_ ?_
              rotate_left
              · show Act.put _ (some 10) _ = _
                simp only [Act.put, List.setIfInBounds_toArray, List.set_cons_zero, List.set_cons_succ, i64_w, i32_w]; rfl
              exact norm_ (by first | (simp only [putAll, Act.put, List.setIfInBounds_toArray, List.set_cons_zero, List.set_cons_succ]; done) | (simp only [putAll, Act.put, List.setIfInBounds_toArray, List.set_cons_zero, List.set_cons_succ]; rfl)) (hJ2_5_7 (gb199) _ ⟨hHeld, (by (with_reducible repeat (first | refine blk_drewN ?_ _ | refine blk_drew ?_ | refine blk_alloc ?_ _)); exact BK191.out), (by (with_reducible repeat (first | refine blk_drewN ?_ _ | refine blk_drew ?_ | refine blk_alloc ?_ _)); exact BK192.out), (by (with_reducible repeat (first | refine blk_drewN ?_ _ | refine blk_drew ?_ | refine blk_alloc ?_ _)); exact BK193.out), (by (with_reducible repeat (first | refine blk_drewN ?_ _ | refine blk_drew ?_ | refine blk_alloc ?_ _)); exact BK199.out), GW199.out, GE199.out, NB191_199.out, NB199_191.out, NB192_199.out, NB199_192.out, NB193_199.out, NB199_193.out, (by repeat (first | (with_reducible first | exact HB.out | apply below_alloc | apply pw_below_drewN | apply below_drew1 | refine below_set ?_ GE191.out | refine below_set ?_ GE192.out | refine below_set ?_ GE193.out | refine below_set ?_ GE199.out) | exact HB.out))⟩)
        · skip
          rintro ⟨gb198, gb199⟩ wza5 ⟨hS_, h0_, h1_, h2_, h3_, h4_, h5_, h6_, h7_, h8_, h9_, h10_, h11_, h12_, h13_, h14_, h15_, h16_, h17_, h18_, h19_, h20_, h21_, h22_, h23_⟩
          have n0_ : Aside0 (wza5.heap[gb191]? = some (.cells #[.int .i64 a0_0, .int .i64 a0_1] 25 (0, 0))) := ⟨h0_⟩
          have n1_ : Aside0 (wza5.heap[gb192]? = some (.cells #[.int .i64 a1_0, .int .i64 a1_1] 25 (0, 0))) := ⟨h1_⟩
          have n2_ : Aside0 (wza5.heap[gb193]? = some (.cells #[.int .i64 a2_0, .int .i64 a2_1] 25 (0, 0))) := ⟨h2_⟩
          have n3_ : Aside0 (wza5.heap[gb198]? = some (.cells #[.int .i64 0, .int .i64 0] 25 (0, 0))) := ⟨h3_⟩
          have n4_ : Aside0 (wza5.heap[gb199]? = some (.cells #[.int .i64 0, .int .i64 0] 25 (0, 0))) := ⟨h4_⟩
          have n5_ : Aside0 (w.heap.size ≤ gb198) := ⟨h5_⟩
          have n6_ : Aside0 (w.heap.size ≤ gb198) := ⟨h6_⟩
          have n7_ : Aside0 (gb191 ≠ gb198) := ⟨h7_⟩
          have n8_ : Aside0 (gb198 ≠ gb191) := ⟨h8_⟩
          have n9_ : Aside0 (gb192 ≠ gb198) := ⟨h9_⟩
          have n10_ : Aside0 (gb198 ≠ gb192) := ⟨h10_⟩
          have n11_ : Aside0 (gb193 ≠ gb198) := ⟨h11_⟩
          have n12_ : Aside0 (gb198 ≠ gb193) := ⟨h12_⟩
          have n13_ : Aside0 (gb199 ≠ gb198) := ⟨h13_⟩
          have n14_ : Aside0 (gb198 ≠ gb199) := ⟨h14_⟩
          have n15_ : Aside0 (w.heap.size ≤ gb199) := ⟨h15_⟩
          have n16_ : Aside0 (w.heap.size ≤ gb199) := ⟨h16_⟩
          have n17_ : Aside0 (gb191 ≠ gb199) := ⟨h17_⟩
          have n18_ : Aside0 (gb199 ≠ gb191) := ⟨h18_⟩
          have n19_ : Aside0 (gb192 ≠ gb199) := ⟨h19_⟩
          have n20_ : Aside0 (gb199 ≠ gb192) := ⟨h20_⟩
          have n21_ : Aside0 (gb193 ≠ gb199) := ⟨h21_⟩
          have n22_ : Aside0 (gb199 ≠ gb193) := ⟨h22_⟩
          have n23_ : Aside0 (Below w.heap.size w wza5) := ⟨h23_⟩
          clear BK191; clear BK192; clear BK193; clear HB; clear h0_ h1_ h2_ h3_ h4_ h5_ h6_ h7_ h8_ h9_ h10_ h11_ h12_ h13_ h14_ h15_ h16_ h17_ h18_ h19_ h20_ h21_ h22_ h23_; have BK191 := n0_; have BK192 := n1_; have BK193 := n2_; have BK198 := n3_; have BK199 := n4_; have GW198 := n5_; have GE198 := n6_; have NB191_198 := n7_; have NB198_191 := n8_; have NB192_198 := n9_; have NB198_192 := n10_; have NB193_198 := n11_; have NB198_193 := n12_; have NB199_198 := n13_; have NB198_199 := n14_; have GW199 := n15_; have GE199 := n16_; have NB191_199 := n17_; have NB199_191 := n18_; have NB192_199 := n19_; have NB199_192 := n20_; have NB193_199 := n21_; have NB199_193 := n22_; have HB := n23_; clear n0_ n1_ n2_ n3_ n4_ n5_ n6_ n7_ n8_ n9_ n10_ n11_ n12_ n13_ n14_ n15_ n16_ n17_ n18_ n19_ n20_ n21_ n22_ n23_
          have hHeld : wza5.cell? ⟨gb192, 0, none⟩ = some (.int .i64 a1_0) ∧ wza5.cell? ⟨gb192, 1, none⟩ = some (.int .i64 a1_1) ∧ wza5.cell? ⟨gb191, 0, none⟩ = some (.int .i64 a0_0) ∧ wza5.cell? ⟨gb191, 1, none⟩ = some (.int .i64 a0_1) ∧ wza5.cell? ⟨gb193, 0, none⟩ = some (.int .i64 a2_0) ∧ wza5.cell? ⟨gb193, 1, none⟩ = some (.int .i64 a2_1) := hS_
          refine norm_ (a' := ?_) ?_ ?_
          rotate_left
          · simp only [putAll, Act.put, List.setIfInBounds_toArray, List.set_cons_zero, List.set_cons_succ]; rfl
          refine one_ (i := 5) (N := some 18) #[true, true, true, true, true, true, true, true, false, false] rfl rfl (one_of HT_.out (by kernel_rfl)) (by decide) (fun K hK => ?_)
          refine goes_ Try.func53 (by kernel_rfl) rfl #[.agg #[.int .i64 a2_0, .int .i64 a2_1], .agg #[.int .i64 a0_0, .int .i64 a0_1]] (by rfl) rfl rfl (by (try simp only [List.map_toArray, List.map_cons, List.map_nil]); first | done | rfl | (simp only [List.length_drop, List.length_take]; rfl)) ?_
          with_reducible refine (plane_Sub.calls a2_0 a2_1 a0_0 a0_1 t196 t197 _ A6.out).mono ?_
          rintro e wza6 ⟨rfl, hb⟩
          refine ⟨_, rfl, ?_⟩
          have n0_ := Aside0.mk (blk_below (g := gb191) (o := .cells #[.int .i64 a0_0, .int .i64 a0_1] 25 (0, 0)) (by (with_reducible repeat (first | refine blk_drewN ?_ _ | refine blk_drew ?_ | refine blk_alloc ?_ _)); exact BK191.out) hb)
          have n1_ := Aside0.mk (blk_below (g := gb192) (o := .cells #[.int .i64 a1_0, .int .i64 a1_1] 25 (0, 0)) (by (with_reducible repeat (first | refine blk_drewN ?_ _ | refine blk_drew ?_ | refine blk_alloc ?_ _)); exact BK192.out) hb)
          have n2_ := Aside0.mk (blk_below (g := gb193) (o := .cells #[.int .i64 a2_0, .int .i64 a2_1] 25 (0, 0)) (by (with_reducible repeat (first | refine blk_drewN ?_ _ | refine blk_drew ?_ | refine blk_alloc ?_ _)); exact BK193.out) hb)
          have n3_ := Aside0.mk (blk_below (g := gb198) (o := .cells #[.int .i64 0, .int .i64 0] 25 (0, 0)) (by (with_reducible repeat (first | refine blk_drewN ?_ _ | refine blk_drew ?_ | refine blk_alloc ?_ _)); exact BK198.out) hb)
          have n4_ := Aside0.mk (blk_below (g := gb199) (o := .cells #[.int .i64 0, .int .i64 0] 25 (0, 0)) (by (with_reducible repeat (first | refine blk_drewN ?_ _ | refine blk_drew ?_ | refine blk_alloc ?_ _)); exact BK199.out) hb)
          have n5_ := Aside0.mk (below_step (by repeat (first | (with_reducible first | exact HB.out | apply below_alloc | apply pw_below_drewN | apply below_drew1 | refine below_set ?_ GE191.out | refine below_set ?_ GE192.out | refine below_set ?_ GE193.out | refine below_set ?_ GE198.out | refine below_set ?_ GE199.out) | exact HB.out)) hb)
          clear BK191; clear BK192; clear BK193; clear BK198; clear BK199; clear HB; have BK191 := n0_; have BK192 := n1_; have BK193 := n2_; have BK198 := n3_; have BK199 := n4_; have HB := n5_; clear n0_ n1_ n2_ n3_ n4_ n5_
          (try clear hb)
          (try clear hb2)
          (try clear hk)
          (try clear hi)
          refine hK.out _ _ ⟨(blk_cell BK192.out 0).trans rfl, (blk_cell BK192.out 1).trans rfl, (blk_cell BK191.out 0).trans rfl, (blk_cell BK191.out 1).trans rfl, (blk_cell BK193.out 0).trans rfl, (blk_cell BK193.out 1).trans rfl⟩ (fun hHeld => ?_)
          clear hK K
          refine norm_ (a' := ?_) ?_ ?_
          rotate_left
          · show Act.put _ (some 18) _ = _
            simp only [Act.put, List.setIfInBounds_toArray, List.set_cons_zero, List.set_cons_succ, i64_w, i32_w]; rfl
          exact norm_ (by first | (simp only [putAll, Act.put, List.setIfInBounds_toArray, List.set_cons_zero, List.set_cons_succ]; done) | (simp only [putAll, Act.put, List.setIfInBounds_toArray, List.set_cons_zero, List.set_cons_succ]; rfl)) (hJ2_5_6_7 (gb198, gb199) _ ⟨hHeld, (by (with_reducible repeat (first | refine blk_drewN ?_ _ | refine blk_drew ?_ | refine blk_alloc ?_ _)); exact BK191.out), (by (with_reducible repeat (first | refine blk_drewN ?_ _ | refine blk_drew ?_ | refine blk_alloc ?_ _)); exact BK192.out), (by (with_reducible repeat (first | refine blk_drewN ?_ _ | refine blk_drew ?_ | refine blk_alloc ?_ _)); exact BK193.out), (by (with_reducible repeat (first | refine blk_drewN ?_ _ | refine blk_drew ?_ | refine blk_alloc ?_ _)); exact BK198.out), (by (with_reducible repeat (first | refine blk_drewN ?_ _ | refine blk_drew ?_ | refine blk_alloc ?_ _)); exact BK199.out), GW198.out, GE198.out, NB191_198.out, NB198_191.out, NB192_198.out, NB198_192.out, NB193_198.out, NB198_193.out, NB199_198.out, NB198_199.out, GW199.out, GE199.out, NB191_199.out, NB199_191.out, NB192_199.out, NB199_192.out, NB193_199.out, NB199_193.out, (by repeat (first | (with_reducible first | exact HB.out | apply below_alloc | apply pw_below_drewN | apply below_drew1 | refine below_set ?_ GE191.out | refine below_set ?_ GE192.out | refine below_set ?_ GE193.out | refine below_set ?_ GE198.out | refine below_set ?_ GE199.out) | exact HB.out))⟩)
      · skip
        rintro gb199 wza5 ⟨hS_, h0_, h1_, h2_, h3_, h4_, h5_, h6_, h7_, h8_, h9_, h10_, h11_, h12_⟩
        have n0_ : Aside0 (wza5.heap[gb191]? = some (.cells #[.int .i64 a0_0, .int .i64 a0_1] 25 (0, 0))) := ⟨h0_⟩
        have n1_ : Aside0 (wza5.heap[gb192]? = some (.cells #[.int .i64 a1_0, .int .i64 a1_1] 25 (0, 0))) := ⟨h1_⟩
        have n2_ : Aside0 (wza5.heap[gb193]? = some (.cells #[.int .i64 a2_0, .int .i64 a2_1] 25 (0, 0))) := ⟨h2_⟩
        have n3_ : Aside0 (wza5.heap[gb199]? = some (.cells #[.int .i64 0, .int .i64 0] 25 (0, 0))) := ⟨h3_⟩
        have n4_ : Aside0 (w.heap.size ≤ gb199) := ⟨h4_⟩
        have n5_ : Aside0 (w.heap.size ≤ gb199) := ⟨h5_⟩
        have n6_ : Aside0 (gb191 ≠ gb199) := ⟨h6_⟩
        have n7_ : Aside0 (gb199 ≠ gb191) := ⟨h7_⟩
        have n8_ : Aside0 (gb192 ≠ gb199) := ⟨h8_⟩
        have n9_ : Aside0 (gb199 ≠ gb192) := ⟨h9_⟩
        have n10_ : Aside0 (gb193 ≠ gb199) := ⟨h10_⟩
        have n11_ : Aside0 (gb199 ≠ gb193) := ⟨h11_⟩
        have n12_ : Aside0 (Below w.heap.size w wza5) := ⟨h12_⟩
        clear BK191; clear BK192; clear BK193; clear HB; clear h0_ h1_ h2_ h3_ h4_ h5_ h6_ h7_ h8_ h9_ h10_ h11_ h12_; have BK191 := n0_; have BK192 := n1_; have BK193 := n2_; have BK199 := n3_; have GW199 := n4_; have GE199 := n5_; have NB191_199 := n6_; have NB199_191 := n7_; have NB192_199 := n8_; have NB199_192 := n9_; have NB193_199 := n10_; have NB199_193 := n11_; have HB := n12_; clear n0_ n1_ n2_ n3_ n4_ n5_ n6_ n7_ n8_ n9_ n10_ n11_ n12_
        have hHeld : wza5.cell? ⟨gb192, 0, none⟩ = some (.int .i64 a1_0) ∧ wza5.cell? ⟨gb192, 1, none⟩ = some (.int .i64 a1_1) ∧ wza5.cell? ⟨gb191, 0, none⟩ = some (.int .i64 a0_0) ∧ wza5.cell? ⟨gb191, 1, none⟩ = some (.int .i64 a0_1) ∧ wza5.cell? ⟨gb193, 0, none⟩ = some (.int .i64 a2_0) ∧ wza5.cell? ⟨gb193, 1, none⟩ = some (.int .i64 a2_1) := hS_
        refine norm_ (a' := ?_) ?_ ?_
        rotate_left
        · simp only [putAll, Act.put, List.setIfInBounds_toArray, List.set_cons_zero, List.set_cons_succ]; rfl
        refine one_ (i := 6) (N := some 9) #[true, true, true, true, true, true, true, true, false, false] rfl rfl (one_of HT_.out (by kernel_rfl)) (by decide) (fun K hK => ?_)
        refine box_step ?hg (N := 9) ?hd (cs := #[.int .i64 0, .int .i64 0]) (t := 25) ?hr ?_; (case hd => rfl); (case hg => rfl); (case hr => first | (go_simp; done) | (go_simp; rfl))
        intro gb198 hg wza6 hbox hb
        have n0_ := Aside0.mk (blk_below (g := gb191) (o := .cells #[.int .i64 a0_0, .int .i64 a0_1] 25 (0, 0)) (by (with_reducible repeat (first | refine blk_drewN ?_ _ | refine blk_drew ?_ | refine blk_alloc ?_ _)); exact BK191.out) hb)
        have n1_ := Aside0.mk (blk_below (g := gb192) (o := .cells #[.int .i64 a1_0, .int .i64 a1_1] 25 (0, 0)) (by (with_reducible repeat (first | refine blk_drewN ?_ _ | refine blk_drew ?_ | refine blk_alloc ?_ _)); exact BK192.out) hb)
        have n2_ := Aside0.mk (blk_below (g := gb193) (o := .cells #[.int .i64 a2_0, .int .i64 a2_1] 25 (0, 0)) (by (with_reducible repeat (first | refine blk_drewN ?_ _ | refine blk_drew ?_ | refine blk_alloc ?_ _)); exact BK193.out) hb)
        have n3_ := Aside0.mk (blk_below (g := gb199) (o := .cells #[.int .i64 0, .int .i64 0] 25 (0, 0)) (by (with_reducible repeat (first | refine blk_drewN ?_ _ | refine blk_drew ?_ | refine blk_alloc ?_ _)); exact BK199.out) hb)
        have n4_ := Aside0.mk (below_step (by repeat (first | (with_reducible first | exact HB.out | apply below_alloc | apply pw_below_drewN | apply below_drew1 | refine below_set ?_ GE191.out | refine below_set ?_ GE192.out | refine below_set ?_ GE193.out | refine below_set ?_ GE199.out) | exact HB.out)) hb)
        have n5_ := Aside0.mk (hbox)
        have n6_ := Aside0.mk ((by rw [hg]; exact (below_size (by repeat (first | (with_reducible first | exact HB.out | apply below_alloc | apply pw_below_drewN | apply below_drew1 | refine below_set ?_ GE191.out | refine below_set ?_ GE192.out | refine below_set ?_ GE193.out | refine below_set ?_ GE199.out) | exact HB.out))) : w.heap.size ≤ gb198))
        have n7_ := Aside0.mk ((by rw [hg]; exact (below_size (by repeat (first | (with_reducible first | exact HB.out | apply below_alloc | apply pw_below_drewN | apply below_drew1 | refine below_set ?_ GE191.out | refine below_set ?_ GE192.out | refine below_set ?_ GE193.out | refine below_set ?_ GE199.out) | exact HB.out))) : w.heap.size ≤ gb198))
        have n8_ := Aside0.mk ((by rw [hg]; exact Nat.ne_of_lt (blk_lt (g := gb191) (o := .cells #[.int .i64 a0_0, .int .i64 a0_1] 25 (0, 0)) (by (with_reducible repeat (first | refine blk_drewN ?_ _ | refine blk_drew ?_ | refine blk_alloc ?_ _)); exact BK191.out)) : gb191 ≠ gb198))
        have n9_ := Aside0.mk ((by rw [hg]; exact Nat.ne_of_gt (blk_lt (g := gb191) (o := .cells #[.int .i64 a0_0, .int .i64 a0_1] 25 (0, 0)) (by (with_reducible repeat (first | refine blk_drewN ?_ _ | refine blk_drew ?_ | refine blk_alloc ?_ _)); exact BK191.out)) : gb198 ≠ gb191))
        have n10_ := Aside0.mk ((by rw [hg]; exact Nat.ne_of_lt (blk_lt (g := gb192) (o := .cells #[.int .i64 a1_0, .int .i64 a1_1] 25 (0, 0)) (by (with_reducible repeat (first | refine blk_drewN ?_ _ | refine blk_drew ?_ | refine blk_alloc ?_ _)); exact BK192.out)) : gb192 ≠ gb198))
        have n11_ := Aside0.mk ((by rw [hg]; exact Nat.ne_of_gt (blk_lt (g := gb192) (o := .cells #[.int .i64 a1_0, .int .i64 a1_1] 25 (0, 0)) (by (with_reducible repeat (first | refine blk_drewN ?_ _ | refine blk_drew ?_ | refine blk_alloc ?_ _)); exact BK192.out)) : gb198 ≠ gb192))
        have n12_ := Aside0.mk ((by rw [hg]; exact Nat.ne_of_lt (blk_lt (g := gb193) (o := .cells #[.int .i64 a2_0, .int .i64 a2_1] 25 (0, 0)) (by (with_reducible repeat (first | refine blk_drewN ?_ _ | refine blk_drew ?_ | refine blk_alloc ?_ _)); exact BK193.out)) : gb193 ≠ gb198))
        have n13_ := Aside0.mk ((by rw [hg]; exact Nat.ne_of_gt (blk_lt (g := gb193) (o := .cells #[.int .i64 a2_0, .int .i64 a2_1] 25 (0, 0)) (by (with_reducible repeat (first | refine blk_drewN ?_ _ | refine blk_drew ?_ | refine blk_alloc ?_ _)); exact BK193.out)) : gb198 ≠ gb193))
        have n14_ := Aside0.mk ((by rw [hg]; exact Nat.ne_of_lt (blk_lt (g := gb199) (o := .cells #[.int .i64 0, .int .i64 0] 25 (0, 0)) (by (with_reducible repeat (first | refine blk_drewN ?_ _ | refine blk_drew ?_ | refine blk_alloc ?_ _)); exact BK199.out)) : gb199 ≠ gb198))
        have n15_ := Aside0.mk ((by rw [hg]; exact Nat.ne_of_gt (blk_lt (g := gb199) (o := .cells #[.int .i64 0, .int .i64 0] 25 (0, 0)) (by (with_reducible repeat (first | refine blk_drewN ?_ _ | refine blk_drew ?_ | refine blk_alloc ?_ _)); exact BK199.out)) : gb198 ≠ gb199))
        clear BK191; clear BK192; clear BK193; clear BK199; clear HB; have BK191 := n0_; have BK192 := n1_; have BK193 := n2_; have BK199 := n3_; have HB := n4_; have BK198 := n5_; have GW198 := n6_; have GE198 := n7_; have NB191_198 := n8_; have NB198_191 := n9_; have NB192_198 := n10_; have NB198_192 := n11_; have NB193_198 := n12_; have NB198_193 := n13_; have NB199_198 := n14_; have NB198_199 := n15_; clear n0_ n1_ n2_ n3_ n4_ n5_ n6_ n7_ n8_ n9_ n10_ n11_ n12_ n13_ n14_ n15_; clear hb hbox hg
        refine hK.out _ _ ⟨(blk_cell BK192.out 0).trans rfl, (blk_cell BK192.out 1).trans rfl, (blk_cell BK191.out 0).trans rfl, (blk_cell BK191.out 1).trans rfl, (blk_cell BK193.out 0).trans rfl, (blk_cell BK193.out 1).trans rfl⟩ (fun hHeld => ?_)
        clear hK K
        refine norm_ (a' := ?_) ?_ ?_
        rotate_left
        · show Act.put _ (some 9) _ = _
          simp only [Act.put, List.setIfInBounds_toArray, List.set_cons_zero, List.set_cons_succ, i64_w, i32_w]; rfl
        exact norm_ (by first | (simp only [putAll, Act.put, List.setIfInBounds_toArray, List.set_cons_zero, List.set_cons_succ]; done) | (simp only [putAll, Act.put, List.setIfInBounds_toArray, List.set_cons_zero, List.set_cons_succ]; rfl)) (hJ2_5_6_7 (gb198, gb199) _ ⟨hHeld, (by (with_reducible repeat (first | refine blk_drewN ?_ _ | refine blk_drew ?_ | refine blk_alloc ?_ _)); exact BK191.out), (by (with_reducible repeat (first | refine blk_drewN ?_ _ | refine blk_drew ?_ | refine blk_alloc ?_ _)); exact BK192.out), (by (with_reducible repeat (first | refine blk_drewN ?_ _ | refine blk_drew ?_ | refine blk_alloc ?_ _)); exact BK193.out), (by (with_reducible repeat (first | refine blk_drewN ?_ _ | refine blk_drew ?_ | refine blk_alloc ?_ _)); exact BK198.out), (by (with_reducible repeat (first | refine blk_drewN ?_ _ | refine blk_drew ?_ | refine blk_alloc ?_ _)); exact BK199.out), GW198.out, GE198.out, NB191_198.out, NB198_191.out, NB192_198.out, NB198_192.out, NB193_198.out, NB198_193.out, NB199_198.out, NB198_199.out, GW199.out, GE199.out, NB191_199.out, NB199_191.out, NB192_199.out, NB199_192.out, NB193_199.out, NB199_193.out, (by repeat (first | (with_reducible first | exact HB.out | apply below_alloc | apply pw_below_drewN | apply below_drew1 | refine below_set ?_ GE191.out | refine below_set ?_ GE192.out | refine below_set ?_ GE193.out | refine below_set ?_ GE199.out | refine below_set ?_ GE198.out) | exact HB.out))⟩)
    · skip
      rintro gb198 wza5 ⟨hS_, h0_, h1_, h2_, h3_, h4_, h5_, h6_, h7_, h8_, h9_, h10_, h11_, h12_⟩
      have n0_ : Aside0 (wza5.heap[gb191]? = some (.cells #[.int .i64 a0_0, .int .i64 a0_1] 25 (0, 0))) := ⟨h0_⟩
      have n1_ : Aside0 (wza5.heap[gb192]? = some (.cells #[.int .i64 a1_0, .int .i64 a1_1] 25 (0, 0))) := ⟨h1_⟩
      have n2_ : Aside0 (wza5.heap[gb193]? = some (.cells #[.int .i64 a2_0, .int .i64 a2_1] 25 (0, 0))) := ⟨h2_⟩
      have n3_ : Aside0 (wza5.heap[gb198]? = some (.cells #[.int .i64 0, .int .i64 0] 25 (0, 0))) := ⟨h3_⟩
      have n4_ : Aside0 (w.heap.size ≤ gb198) := ⟨h4_⟩
      have n5_ : Aside0 (w.heap.size ≤ gb198) := ⟨h5_⟩
      have n6_ : Aside0 (gb191 ≠ gb198) := ⟨h6_⟩
      have n7_ : Aside0 (gb198 ≠ gb191) := ⟨h7_⟩
      have n8_ : Aside0 (gb192 ≠ gb198) := ⟨h8_⟩
      have n9_ : Aside0 (gb198 ≠ gb192) := ⟨h9_⟩
      have n10_ : Aside0 (gb193 ≠ gb198) := ⟨h10_⟩
      have n11_ : Aside0 (gb198 ≠ gb193) := ⟨h11_⟩
      have n12_ : Aside0 (Below w.heap.size w wza5) := ⟨h12_⟩
      clear BK191; clear BK192; clear BK193; clear HB; clear h0_ h1_ h2_ h3_ h4_ h5_ h6_ h7_ h8_ h9_ h10_ h11_ h12_; have BK191 := n0_; have BK192 := n1_; have BK193 := n2_; have BK198 := n3_; have GW198 := n4_; have GE198 := n5_; have NB191_198 := n6_; have NB198_191 := n7_; have NB192_198 := n8_; have NB198_192 := n9_; have NB193_198 := n10_; have NB198_193 := n11_; have HB := n12_; clear n0_ n1_ n2_ n3_ n4_ n5_ n6_ n7_ n8_ n9_ n10_ n11_ n12_
      have hHeld : wza5.cell? ⟨gb192, 0, none⟩ = some (.int .i64 a1_0) ∧ wza5.cell? ⟨gb192, 1, none⟩ = some (.int .i64 a1_1) ∧ wza5.cell? ⟨gb191, 0, none⟩ = some (.int .i64 a0_0) ∧ wza5.cell? ⟨gb191, 1, none⟩ = some (.int .i64 a0_1) ∧ wza5.cell? ⟨gb193, 0, none⟩ = some (.int .i64 a2_0) ∧ wza5.cell? ⟨gb193, 1, none⟩ = some (.int .i64 a2_1) := hS_
      refine norm_ (a' := ?_) ?_ ?_
      rotate_left
      · simp only [putAll, Act.put, List.setIfInBounds_toArray, List.set_cons_zero, List.set_cons_succ]; rfl
      refine one_ (i := 7) (N := some 10) #[true, true, true, true, true, true, true, true, false, false] rfl rfl (one_of HT_.out (by kernel_rfl)) (by decide) (fun K hK => ?_)
      refine box_step ?hg (N := 10) ?hd (cs := #[.int .i64 0, .int .i64 0]) (t := 25) ?hr ?_; (case hd => rfl); (case hg => rfl); (case hr => first | (go_simp; done) | (go_simp; rfl))
      intro gb199 hg wza6 hbox hb
      have n0_ := Aside0.mk (blk_below (g := gb191) (o := .cells #[.int .i64 a0_0, .int .i64 a0_1] 25 (0, 0)) (by (with_reducible repeat (first | refine blk_drewN ?_ _ | refine blk_drew ?_ | refine blk_alloc ?_ _)); exact BK191.out) hb)
      have n1_ := Aside0.mk (blk_below (g := gb192) (o := .cells #[.int .i64 a1_0, .int .i64 a1_1] 25 (0, 0)) (by (with_reducible repeat (first | refine blk_drewN ?_ _ | refine blk_drew ?_ | refine blk_alloc ?_ _)); exact BK192.out) hb)
      have n2_ := Aside0.mk (blk_below (g := gb193) (o := .cells #[.int .i64 a2_0, .int .i64 a2_1] 25 (0, 0)) (by (with_reducible repeat (first | refine blk_drewN ?_ _ | refine blk_drew ?_ | refine blk_alloc ?_ _)); exact BK193.out) hb)
      have n3_ := Aside0.mk (blk_below (g := gb198) (o := .cells #[.int .i64 0, .int .i64 0] 25 (0, 0)) (by (with_reducible repeat (first | refine blk_drewN ?_ _ | refine blk_drew ?_ | refine blk_alloc ?_ _)); exact BK198.out) hb)
      have n4_ := Aside0.mk (below_step (by repeat (first | (with_reducible first | exact HB.out | apply below_alloc | apply pw_below_drewN | apply below_drew1 | refine below_set ?_ GE191.out | refine below_set ?_ GE192.out | refine below_set ?_ GE193.out | refine below_set ?_ GE198.out) | exact HB.out)) hb)
      have n5_ := Aside0.mk (hbox)
      have n6_ := Aside0.mk ((by rw [hg]; exact (below_size (by repeat (first | (with_reducible first | exact HB.out | apply below_alloc | apply pw_below_drewN | apply below_drew1 | refine below_set ?_ GE191.out | refine below_set ?_ GE192.out | refine below_set ?_ GE193.out | refine below_set ?_ GE198.out) | exact HB.out))) : w.heap.size ≤ gb199))
      have n7_ := Aside0.mk ((by rw [hg]; exact (below_size (by repeat (first | (with_reducible first | exact HB.out | apply below_alloc | apply pw_below_drewN | apply below_drew1 | refine below_set ?_ GE191.out | refine below_set ?_ GE192.out | refine below_set ?_ GE193.out | refine below_set ?_ GE198.out) | exact HB.out))) : w.heap.size ≤ gb199))
      have n8_ := Aside0.mk ((by rw [hg]; exact Nat.ne_of_lt (blk_lt (g := gb191) (o := .cells #[.int .i64 a0_0, .int .i64 a0_1] 25 (0, 0)) (by (with_reducible repeat (first | refine blk_drewN ?_ _ | refine blk_drew ?_ | refine blk_alloc ?_ _)); exact BK191.out)) : gb191 ≠ gb199))
      have n9_ := Aside0.mk ((by rw [hg]; exact Nat.ne_of_gt (blk_lt (g := gb191) (o := .cells #[.int .i64 a0_0, .int .i64 a0_1] 25 (0, 0)) (by (with_reducible repeat (first | refine blk_drewN ?_ _ | refine blk_drew ?_ | refine blk_alloc ?_ _)); exact BK191.out)) : gb199 ≠ gb191))
      have n10_ := Aside0.mk ((by rw [hg]; exact Nat.ne_of_lt (blk_lt (g := gb192) (o := .cells #[.int .i64 a1_0, .int .i64 a1_1] 25 (0, 0)) (by (with_reducible repeat (first | refine blk_drewN ?_ _ | refine blk_drew ?_ | refine blk_alloc ?_ _)); exact BK192.out)) : gb192 ≠ gb199))
      have n11_ := Aside0.mk ((by rw [hg]; exact Nat.ne_of_gt (blk_lt (g := gb192) (o := .cells #[.int .i64 a1_0, .int .i64 a1_1] 25 (0, 0)) (by (with_reducible repeat (first | refine blk_drewN ?_ _ | refine blk_drew ?_ | refine blk_alloc ?_ _)); exact BK192.out)) : gb199 ≠ gb192))
      have n12_ := Aside0.mk ((by rw [hg]; exact Nat.ne_of_lt (blk_lt (g := gb193) (o := .cells #[.int .i64 a2_0, .int .i64 a2_1] 25 (0, 0)) (by (with_reducible repeat (first | refine blk_drewN ?_ _ | refine blk_drew ?_ | refine blk_alloc ?_ _)); exact BK193.out)) : gb193 ≠ gb199))
      have n13_ := Aside0.mk ((by rw [hg]; exact Nat.ne_of_gt (blk_lt (g := gb193) (o := .cells #[.int .i64 a2_0, .int .i64 a2_1] 25 (0, 0)) (by (with_reducible repeat (first | refine blk_drewN ?_ _ | refine blk_drew ?_ | refine blk_alloc ?_ _)); exact BK193.out)) : gb199 ≠ gb193))
      have n14_ := Aside0.mk ((by rw [hg]; exact Nat.ne_of_lt (blk_lt (g := gb198) (o := .cells #[.int .i64 0, .int .i64 0] 25 (0, 0)) (by (with_reducible repeat (first | refine blk_drewN ?_ _ | refine blk_drew ?_ | refine blk_alloc ?_ _)); exact BK198.out)) : gb198 ≠ gb199))
      have n15_ := Aside0.mk ((by rw [hg]; exact Nat.ne_of_gt (blk_lt (g := gb198) (o := .cells #[.int .i64 0, .int .i64 0] 25 (0, 0)) (by (with_reducible repeat (first | refine blk_drewN ?_ _ | refine blk_drew ?_ | refine blk_alloc ?_ _)); exact BK198.out)) : gb199 ≠ gb198))
      clear BK191; clear BK192; clear BK193; clear BK198; clear HB; have BK191 := n0_; have BK192 := n1_; have BK193 := n2_; have BK198 := n3_; have HB := n4_; have BK199 := n5_; have GW199 := n6_; have GE199 := n7_; have NB191_199 := n8_; have NB199_191 := n9_; have NB192_199 := n10_; have NB199_192 := n11_; have NB193_199 := n12_; have NB199_193 := n13_; have NB198_199 := n14_; have NB199_198 := n15_; clear n0_ n1_ n2_ n3_ n4_ n5_ n6_ n7_ n8_ n9_ n10_ n11_ n12_ n13_ n14_ n15_; clear hb hbox hg
      refine hK.out _ _ ⟨(blk_cell BK192.out 0).trans rfl, (blk_cell BK192.out 1).trans rfl, (blk_cell BK191.out 0).trans rfl, (blk_cell BK191.out 1).trans rfl, (blk_cell BK193.out 0).trans rfl, (blk_cell BK193.out 1).trans rfl⟩ (fun hHeld => ?_)
      clear hK K
      refine norm_ (a' := ?_) ?_ ?_
      rotate_left
      · show Act.put _ (some 10) _ = _
        simp only [Act.put, List.setIfInBounds_toArray, List.set_cons_zero, List.set_cons_succ, i64_w, i32_w]; rfl
      exact norm_ (by first | (simp only [putAll, Act.put, List.setIfInBounds_toArray, List.set_cons_zero, List.set_cons_succ]; done) | (simp only [putAll, Act.put, List.setIfInBounds_toArray, List.set_cons_zero, List.set_cons_succ]; rfl)) (hJ2_5_6_7 (gb198, gb199) _ ⟨hHeld, (by (with_reducible repeat (first | refine blk_drewN ?_ _ | refine blk_drew ?_ | refine blk_alloc ?_ _)); exact BK191.out), (by (with_reducible repeat (first | refine blk_drewN ?_ _ | refine blk_drew ?_ | refine blk_alloc ?_ _)); exact BK192.out), (by (with_reducible repeat (first | refine blk_drewN ?_ _ | refine blk_drew ?_ | refine blk_alloc ?_ _)); exact BK193.out), (by (with_reducible repeat (first | refine blk_drewN ?_ _ | refine blk_drew ?_ | refine blk_alloc ?_ _)); exact BK198.out), (by (with_reducible repeat (first | refine blk_drewN ?_ _ | refine blk_drew ?_ | refine blk_alloc ?_ _)); exact BK199.out), GW198.out, GE198.out, NB191_198.out, NB198_191.out, NB192_198.out, NB198_192.out, NB193_198.out, NB198_193.out, NB199_198.out, NB198_199.out, GW199.out, GE199.out, NB191_199.out, NB199_191.out, NB192_199.out, NB199_192.out, NB193_199.out, NB199_193.out, (by repeat (first | (with_reducible first | exact HB.out | apply below_alloc | apply pw_below_drewN | apply below_drew1 | refine below_set ?_ GE191.out | refine below_set ?_ GE192.out | refine below_set ?_ GE193.out | refine below_set ?_ GE198.out | refine below_set ?_ GE199.out) | exact HB.out))⟩)
  rintro ⟨gb198, gb199⟩ wza6 ⟨hS_, h0_, h1_, h2_, h3_, h4_, h5_, h6_, h7_, h8_, h9_, h10_, h11_, h12_, h13_, h14_, h15_, h16_, h17_, h18_, h19_, h20_, h21_, h22_, h23_⟩
  have n0_ : Aside0 (wza6.heap[gb191]? = some (.cells #[.int .i64 a0_0, .int .i64 a0_1] 25 (0, 0))) := ⟨h0_⟩
  have n1_ : Aside0 (wza6.heap[gb192]? = some (.cells #[.int .i64 a1_0, .int .i64 a1_1] 25 (0, 0))) := ⟨h1_⟩
  have n2_ : Aside0 (wza6.heap[gb193]? = some (.cells #[.int .i64 a2_0, .int .i64 a2_1] 25 (0, 0))) := ⟨h2_⟩
  have n3_ : Aside0 (wza6.heap[gb198]? = some (.cells #[.int .i64 0, .int .i64 0] 25 (0, 0))) := ⟨h3_⟩
  have n4_ : Aside0 (wza6.heap[gb199]? = some (.cells #[.int .i64 0, .int .i64 0] 25 (0, 0))) := ⟨h4_⟩
  have n5_ : Aside0 (w.heap.size ≤ gb198) := ⟨h5_⟩
  have n6_ : Aside0 (w.heap.size ≤ gb198) := ⟨h6_⟩
  have n7_ : Aside0 (gb191 ≠ gb198) := ⟨h7_⟩
  have n8_ : Aside0 (gb198 ≠ gb191) := ⟨h8_⟩
  have n9_ : Aside0 (gb192 ≠ gb198) := ⟨h9_⟩
  have n10_ : Aside0 (gb198 ≠ gb192) := ⟨h10_⟩
  have n11_ : Aside0 (gb193 ≠ gb198) := ⟨h11_⟩
  have n12_ : Aside0 (gb198 ≠ gb193) := ⟨h12_⟩
  have n13_ : Aside0 (gb199 ≠ gb198) := ⟨h13_⟩
  have n14_ : Aside0 (gb198 ≠ gb199) := ⟨h14_⟩
  have n15_ : Aside0 (w.heap.size ≤ gb199) := ⟨h15_⟩
  have n16_ : Aside0 (w.heap.size ≤ gb199) := ⟨h16_⟩
  have n17_ : Aside0 (gb191 ≠ gb199) := ⟨h17_⟩
  have n18_ : Aside0 (gb199 ≠ gb191) := ⟨h18_⟩
  have n19_ : Aside0 (gb192 ≠ gb199) := ⟨h19_⟩
  have n20_ : Aside0 (gb199 ≠ gb192) := ⟨h20_⟩
  have n21_ : Aside0 (gb193 ≠ gb199) := ⟨h21_⟩
  have n22_ : Aside0 (gb199 ≠ gb193) := ⟨h22_⟩
  have n23_ : Aside0 (Below w.heap.size w wza6) := ⟨h23_⟩
  clear BK191; clear BK192; clear BK193; clear HB; clear h0_ h1_ h2_ h3_ h4_ h5_ h6_ h7_ h8_ h9_ h10_ h11_ h12_ h13_ h14_ h15_ h16_ h17_ h18_ h19_ h20_ h21_ h22_ h23_; have BK191 := n0_; have BK192 := n1_; have BK193 := n2_; have BK198 := n3_; have BK199 := n4_; have GW198 := n5_; have GE198 := n6_; have NB191_198 := n7_; have NB198_191 := n8_; have NB192_198 := n9_; have NB198_192 := n10_; have NB193_198 := n11_; have NB198_193 := n12_; have NB199_198 := n13_; have NB198_199 := n14_; have GW199 := n15_; have GE199 := n16_; have NB191_199 := n17_; have NB199_191 := n18_; have NB192_199 := n19_; have NB199_192 := n20_; have NB193_199 := n21_; have NB199_193 := n22_; have HB := n23_; clear n0_ n1_ n2_ n3_ n4_ n5_ n6_ n7_ n8_ n9_ n10_ n11_ n12_ n13_ n14_ n15_ n16_ n17_ n18_ n19_ n20_ n21_ n22_ n23_
  have hHeld : wza6.cell? ⟨gb192, 0, none⟩ = some (.int .i64 a1_0) ∧ wza6.cell? ⟨gb192, 1, none⟩ = some (.int .i64 a1_1) ∧ wza6.cell? ⟨gb191, 0, none⟩ = some (.int .i64 a0_0) ∧ wza6.cell? ⟨gb191, 1, none⟩ = some (.int .i64 a0_1) ∧ wza6.cell? ⟨gb193, 0, none⟩ = some (.int .i64 a2_0) ∧ wza6.cell? ⟨gb193, 1, none⟩ = some (.int .i64 a2_1) := hS_
  refine norm_ (a' := ?_) ?_ ?_
  rotate_left
  · simp only [putAll, Act.put, List.setIfInBounds_toArray, List.set_cons_zero, List.set_cons_succ]; rfl
  refine one_ (i := 8) (N := none) #[true, true, true, true, true, true, true, true, true, false] rfl rfl (one_of HT_.out (by kernel_rfl)) (by decide) (fun K hK => ?_)
  have hsza1 : wza6.cell? ⟨gb198, 0, none⟩ = some (.int .i64 0) := (blk_cell BK198.out 0).trans rfl
  have hfsza1 := blk_frozen BK198.out 0; have hnsza1 := NB191_198.out; have hnsza2 := NB192_198.out; have hnsza3 := NB193_198.out; have hnsza4 := NB199_198.out; have hmsza1 := NB198_191.out; have hmsza2 := NB198_192.out; have hmsza3 := NB198_193.out; have hmsza4 := NB198_199.out
  have hsza2 : wza6.cell? ⟨gb198, 1, none⟩ = some (.int .i64 0) := (blk_cell BK198.out 1).trans rfl
  have hfsza2 := blk_frozen BK198.out 1; have hnsza5 := NB191_198.out; have hnsza6 := NB192_198.out; have hnsza7 := NB193_198.out; have hnsza8 := NB199_198.out; have hmsza5 := NB198_191.out; have hmsza6 := NB198_192.out; have hmsza7 := NB198_193.out; have hmsza8 := NB198_199.out
  (with_reducible refine skip_ (w1 := ?_) ?hA_ ?hB_ ?_ ?_); (case hA_ => rfl); (case hB_ => rfl)
  rotate_left
  · go_simp; rfl
  refine hK.out _ _ ⟨((cell_far (p := ⟨gb198, _, none⟩) NB192_198.out _).trans (((cell_far (p := ⟨gb198, _, none⟩) NB192_198.out _).trans (hHeld.1)))), ((cell_far (p := ⟨gb198, _, none⟩) NB192_198.out _).trans (((cell_far (p := ⟨gb198, _, none⟩) NB192_198.out _).trans (hHeld.2.1)))), ((cell_far (p := ⟨gb198, _, none⟩) NB191_198.out _).trans (((cell_far (p := ⟨gb198, _, none⟩) NB191_198.out _).trans (hHeld.2.2.1)))), ((cell_far (p := ⟨gb198, _, none⟩) NB191_198.out _).trans (((cell_far (p := ⟨gb198, _, none⟩) NB191_198.out _).trans (hHeld.2.2.2.1)))), ((cell_far (p := ⟨gb198, _, none⟩) NB193_198.out _).trans (((cell_far (p := ⟨gb198, _, none⟩) NB193_198.out _).trans (hHeld.2.2.2.2.1)))), ((cell_far (p := ⟨gb198, _, none⟩) NB193_198.out _).trans (((cell_far (p := ⟨gb198, _, none⟩) NB193_198.out _).trans (hHeld.2.2.2.2.2))))⟩ (fun hHeld => ?_)
  clear hK K
  refine one_ (i := 9) (N := none) #[true, true, true, true, true, true, true, true, true, true] rfl rfl (one_of HT_.out (by kernel_rfl)) (by decide) (fun K hK => ?_)
  have hsza3 : wza6.cell? ⟨gb199, 0, none⟩ = some (.int .i64 0) := (blk_cell BK199.out 0).trans rfl
  have hfsza3 := blk_frozen BK199.out 0; have hnsza9 := NB191_199.out; have hnsza10 := NB192_199.out; have hnsza11 := NB193_199.out; have hnsza12 := NB198_199.out; have hmsza9 := NB199_191.out; have hmsza10 := NB199_192.out; have hmsza11 := NB199_193.out; have hmsza12 := NB199_198.out
  have hsza4 : wza6.cell? ⟨gb199, 1, none⟩ = some (.int .i64 0) := (blk_cell BK199.out 1).trans rfl
  have hfsza4 := blk_frozen BK199.out 1; have hnsza13 := NB191_199.out; have hnsza14 := NB192_199.out; have hnsza15 := NB193_199.out; have hnsza16 := NB198_199.out; have hmsza13 := NB199_191.out; have hmsza14 := NB199_192.out; have hmsza15 := NB199_193.out; have hmsza16 := NB199_198.out
  (with_reducible refine skip_ (w1 := ?_) ?hA_ ?hB_ ?_ ?_); (case hA_ => rfl); (case hB_ => rfl)
  rotate_left
  · go_simp; rfl
  refine hK.out _ _ ⟨((cell_far (p := ⟨gb199, _, none⟩) NB192_199.out _).trans (((cell_far (p := ⟨gb199, _, none⟩) NB192_199.out _).trans (hHeld.1)))), ((cell_far (p := ⟨gb199, _, none⟩) NB192_199.out _).trans (((cell_far (p := ⟨gb199, _, none⟩) NB192_199.out _).trans (hHeld.2.1)))), ((cell_far (p := ⟨gb199, _, none⟩) NB191_199.out _).trans (((cell_far (p := ⟨gb199, _, none⟩) NB191_199.out _).trans (hHeld.2.2.1)))), ((cell_far (p := ⟨gb199, _, none⟩) NB191_199.out _).trans (((cell_far (p := ⟨gb199, _, none⟩) NB191_199.out _).trans (hHeld.2.2.2.1)))), ((cell_far (p := ⟨gb199, _, none⟩) NB193_199.out _).trans (((cell_far (p := ⟨gb199, _, none⟩) NB193_199.out _).trans (hHeld.2.2.2.2.1)))), ((cell_far (p := ⟨gb199, _, none⟩) NB193_199.out _).trans (((cell_far (p := ⟨gb199, _, none⟩) NB193_199.out _).trans (hHeld.2.2.2.2.2))))⟩ (fun hHeld => ?_)
  clear hK K
  refine done_ (done_of HT_.out (by kernel_rfl)) ?_
  try go_wp2
  have n0_ : Aside0 (((((wza6.setCell ⟨gb198, 0, none⟩ (.int .i64 t194)).setCell ⟨gb198, 1, none⟩ (.int .i64 t195)).setCell ⟨gb199, 0, none⟩ (.int .i64 t196)).setCell ⟨gb199, 1, none⟩ (.int .i64 t197)).heap[gb191]? = some (.cells #[.int .i64 a0_0, .int .i64 a0_1] 25 (0, 0))) := ⟨by (with_reducible repeat (first | refine blk_drewN ?_ _ | refine blk_drew ?_ | refine blk_alloc ?_ _)); refine blk_far ?_ NB191_199.out _; (with_reducible repeat (first | refine blk_drewN ?_ _ | refine blk_drew ?_ | refine blk_alloc ?_ _)); refine blk_far ?_ NB191_199.out _; (with_reducible repeat (first | refine blk_drewN ?_ _ | refine blk_drew ?_ | refine blk_alloc ?_ _)); refine blk_far ?_ NB191_198.out _; (with_reducible repeat (first | refine blk_drewN ?_ _ | refine blk_drew ?_ | refine blk_alloc ?_ _)); refine blk_far ?_ NB191_198.out _; (with_reducible repeat (first | refine blk_drewN ?_ _ | refine blk_drew ?_ | refine blk_alloc ?_ _)); exact BK191.out⟩
  have n1_ : Aside0 (((((wza6.setCell ⟨gb198, 0, none⟩ (.int .i64 t194)).setCell ⟨gb198, 1, none⟩ (.int .i64 t195)).setCell ⟨gb199, 0, none⟩ (.int .i64 t196)).setCell ⟨gb199, 1, none⟩ (.int .i64 t197)).heap[gb192]? = some (.cells #[.int .i64 a1_0, .int .i64 a1_1] 25 (0, 0))) := ⟨by (with_reducible repeat (first | refine blk_drewN ?_ _ | refine blk_drew ?_ | refine blk_alloc ?_ _)); refine blk_far ?_ NB192_199.out _; (with_reducible repeat (first | refine blk_drewN ?_ _ | refine blk_drew ?_ | refine blk_alloc ?_ _)); refine blk_far ?_ NB192_199.out _; (with_reducible repeat (first | refine blk_drewN ?_ _ | refine blk_drew ?_ | refine blk_alloc ?_ _)); refine blk_far ?_ NB192_198.out _; (with_reducible repeat (first | refine blk_drewN ?_ _ | refine blk_drew ?_ | refine blk_alloc ?_ _)); refine blk_far ?_ NB192_198.out _; (with_reducible repeat (first | refine blk_drewN ?_ _ | refine blk_drew ?_ | refine blk_alloc ?_ _)); exact BK192.out⟩
  have n2_ : Aside0 (((((wza6.setCell ⟨gb198, 0, none⟩ (.int .i64 t194)).setCell ⟨gb198, 1, none⟩ (.int .i64 t195)).setCell ⟨gb199, 0, none⟩ (.int .i64 t196)).setCell ⟨gb199, 1, none⟩ (.int .i64 t197)).heap[gb193]? = some (.cells #[.int .i64 a2_0, .int .i64 a2_1] 25 (0, 0))) := ⟨by (with_reducible repeat (first | refine blk_drewN ?_ _ | refine blk_drew ?_ | refine blk_alloc ?_ _)); refine blk_far ?_ NB193_199.out _; (with_reducible repeat (first | refine blk_drewN ?_ _ | refine blk_drew ?_ | refine blk_alloc ?_ _)); refine blk_far ?_ NB193_199.out _; (with_reducible repeat (first | refine blk_drewN ?_ _ | refine blk_drew ?_ | refine blk_alloc ?_ _)); refine blk_far ?_ NB193_198.out _; (with_reducible repeat (first | refine blk_drewN ?_ _ | refine blk_drew ?_ | refine blk_alloc ?_ _)); refine blk_far ?_ NB193_198.out _; (with_reducible repeat (first | refine blk_drewN ?_ _ | refine blk_drew ?_ | refine blk_alloc ?_ _)); exact BK193.out⟩
  have n3_ : Aside0 (((((wza6.setCell ⟨gb198, 0, none⟩ (.int .i64 t194)).setCell ⟨gb198, 1, none⟩ (.int .i64 t195)).setCell ⟨gb199, 0, none⟩ (.int .i64 t196)).setCell ⟨gb199, 1, none⟩ (.int .i64 t197)).heap[gb198]? = some (.cells #[.int .i64 t194, .int .i64 t195] 25 (0, 0))) := ⟨by (with_reducible repeat (first | refine blk_drewN ?_ _ | refine blk_drew ?_ | refine blk_alloc ?_ _)); refine blk_far ?_ NB198_199.out _; (with_reducible repeat (first | refine blk_drewN ?_ _ | refine blk_drew ?_ | refine blk_alloc ?_ _)); refine blk_far ?_ NB198_199.out _; (with_reducible repeat (first | refine blk_drewN ?_ _ | refine blk_drew ?_ | refine blk_alloc ?_ _)); refine blk_put (cs := #[.int .i64 t194, .int .i64 0]) ?_ 1 _ rfl; (with_reducible repeat (first | refine blk_drewN ?_ _ | refine blk_drew ?_ | refine blk_alloc ?_ _)); refine blk_put (cs := #[.int .i64 0, .int .i64 0]) ?_ 0 _ rfl; (with_reducible repeat (first | refine blk_drewN ?_ _ | refine blk_drew ?_ | refine blk_alloc ?_ _)); exact BK198.out⟩
  have n4_ : Aside0 (((((wza6.setCell ⟨gb198, 0, none⟩ (.int .i64 t194)).setCell ⟨gb198, 1, none⟩ (.int .i64 t195)).setCell ⟨gb199, 0, none⟩ (.int .i64 t196)).setCell ⟨gb199, 1, none⟩ (.int .i64 t197)).heap[gb199]? = some (.cells #[.int .i64 t196, .int .i64 t197] 25 (0, 0))) := ⟨by (with_reducible repeat (first | refine blk_drewN ?_ _ | refine blk_drew ?_ | refine blk_alloc ?_ _)); refine blk_put (cs := #[.int .i64 t196, .int .i64 0]) ?_ 1 _ rfl; (with_reducible repeat (first | refine blk_drewN ?_ _ | refine blk_drew ?_ | refine blk_alloc ?_ _)); refine blk_put (cs := #[.int .i64 0, .int .i64 0]) ?_ 0 _ rfl; (with_reducible repeat (first | refine blk_drewN ?_ _ | refine blk_drew ?_ | refine blk_alloc ?_ _)); refine blk_far ?_ NB199_198.out _; (with_reducible repeat (first | refine blk_drewN ?_ _ | refine blk_drew ?_ | refine blk_alloc ?_ _)); refine blk_far ?_ NB199_198.out _; (with_reducible repeat (first | refine blk_drewN ?_ _ | refine blk_drew ?_ | refine blk_alloc ?_ _)); exact BK199.out⟩
  have n5_ : Aside0 (Below w.heap.size w ((((wza6.setCell ⟨gb198, 0, none⟩ (.int .i64 t194)).setCell ⟨gb198, 1, none⟩ (.int .i64 t195)).setCell ⟨gb199, 0, none⟩ (.int .i64 t196)).setCell ⟨gb199, 1, none⟩ (.int .i64 t197))) := ⟨by repeat (first | (with_reducible first | exact HB.out | apply below_alloc | apply pw_below_drewN | apply below_drew1 | refine below_set ?_ GE191.out | refine below_set ?_ GE192.out | refine below_set ?_ GE193.out | refine below_set ?_ GE198.out | refine below_set ?_ GE199.out) | exact HB.out)⟩
  (try clear BK191)
  (try clear BK192)
  (try clear BK193)
  (try clear BK198)
  (try clear BK199)
  (try clear HB)
  generalize ((((wza6.setCell ⟨gb198, 0, none⟩ (.int .i64 t194)).setCell ⟨gb198, 1, none⟩ (.int .i64 t195)).setCell ⟨gb199, 0, none⟩ (.int .i64 t196)).setCell ⟨gb199, 1, none⟩ (.int .i64 t197)) = wza7 at n0_ n1_ n2_ n3_ n4_ n5_ ⊢
  have BK191 := n0_; have BK192 := n1_; have BK193 := n2_; have BK198 := n3_; have BK199 := n4_; have HB := n5_; clear n0_ n1_ n2_ n3_ n4_ n5_
  have n0_ := Aside0.mk (blk_drew BK191.out)
  have n1_ := Aside0.mk (blk_drew BK192.out)
  have n2_ := Aside0.mk (blk_drew BK193.out)
  have n3_ := Aside0.mk (blk_drew BK198.out)
  have n4_ := Aside0.mk (blk_drew BK199.out)
  have n5_ := Aside0.mk (below_drew1 HB.out)
  clear BK191; clear BK192; clear BK193; clear BK198; clear BK199; clear HB; have BK191 := n0_; have BK192 := n1_; have BK193 := n2_; have BK198 := n3_; have BK199 := n4_; have HB := n5_; clear n0_ n1_ n2_ n3_ n4_ n5_
  refine start_ (n := 8) (S := fun w' => w'.cell? ⟨gb198, 0, none⟩ = some (.int .i64 t194) ∧ w'.cell? ⟨gb198, 1, none⟩ = some (.int .i64 t195) ∧ w'.cell? ⟨gb199, 0, none⟩ = some (.int .i64 t196) ∧ w'.cell? ⟨gb199, 1, none⟩ = some (.int .i64 t197)) (ds := []) #[false, false, false, false, false, false, false, false] (by kernel_rfl) rfl rfl ⟨(blk_cell BK198.out 0).trans rfl, (blk_cell BK198.out 1).trans rfl, (blk_cell BK199.out 0).trans rfl, (blk_cell BK199.out 1).trans rfl⟩ (fun hHeld => ?_); refine with_tabW polygon_near.tab2 polygon_near.bits2 (fun HT_ HW_ => ?_)
  generalize wza7.drew = wza8 at BK191 BK192 BK193 BK198 BK199 HB hHeld ⊢
  refine take_ (i := 0) (N := some 19) (v := ?_) (a' := ?_) #[true, false, false, false, false, false, false, false] rfl rfl (take_ofW HT_.out HW_.out (by kernel_rfl)) (fun _ _ _ h => h) (Or.inl ⟨by rfl, ?_⟩) hHeld ?_ ?_
  rotate_left
  · rintro w' ⟨s0, s1, s2, s3⟩
    go_simp; with_reducible rfl
  rotate_left
  · simp only [Act.put, List.setIfInBounds_toArray, List.set_cons_zero, List.set_cons_succ, i64_w, i32_w]; rfl
  refine take_ (i := 1) (N := some 20) (v := ?_) (a' := ?_) #[true, true, false, false, false, false, false, false] rfl rfl (take_ofW HT_.out HW_.out (by kernel_rfl)) (fun _ _ _ h => h) (Or.inl ⟨by rfl, ?_⟩) hHeld ?_ ?_
  rotate_left
  · rintro w' ⟨s0, s1, s2, s3⟩
    go_simp; with_reducible rfl
  rotate_left
  · simp only [Act.put, List.setIfInBounds_toArray, List.set_cons_zero, List.set_cons_succ, i64_w, i32_w]; rfl
  refine take_ (i := 3) (N := some 22) (v := ?_) (a' := ?_) #[true, true, false, true, false, false, false, false] rfl rfl (take_ofW HT_.out HW_.out (by kernel_rfl)) (fun _ _ _ h => h) (Or.inl ⟨by rfl, ?_⟩) hHeld ?_ ?_
  rotate_left
  · rintro w' ⟨s0, s1, s2, s3⟩
    go_simp; with_reducible rfl
  rotate_left
  · simp only [Act.put, List.setIfInBounds_toArray, List.set_cons_zero, List.set_cons_succ, i64_w, i32_w]; rfl
  refine take_ (i := 4) (N := some 23) (v := ?_) (a' := ?_) #[true, true, false, true, true, false, false, false] rfl rfl (take_ofW HT_.out HW_.out (by kernel_rfl)) (fun _ _ _ h => h) (Or.inl ⟨by rfl, ?_⟩) hHeld ?_ ?_
  rotate_left
  · rintro w' ⟨s0, s1, s2, s3⟩
    go_simp; with_reducible rfl
  rotate_left
  · simp only [Act.put, List.setIfInBounds_toArray, List.set_cons_zero, List.set_cons_succ, i64_w, i32_w]; rfl
  refine one_ (i := 2) (N := some 21) #[true, true, true, true, true, false, false, false] rfl rfl (one_of HT_.out (by kernel_rfl)) (by decide) (fun K hK => ?_)
  refine goes_ Try.func55 (by kernel_rfl) rfl #[.agg #[.int .i64 t194, .int .i64 t195], .agg #[.int .i64 t196, .int .i64 t197]] (by rfl) rfl rfl (by (try simp only [List.map_toArray, List.map_cons, List.map_nil]); first | done | rfl | (simp only [List.length_drop, List.length_take]; rfl)) ?_
  with_reducible refine (plane_Dot.calls t194 t195 t196 t197 t200 _ A7.out).mono ?_
  rintro e wza9 ⟨rfl, hb⟩
  refine ⟨_, rfl, ?_⟩
  have n0_ := Aside0.mk (blk_below (g := gb191) (o := .cells #[.int .i64 a0_0, .int .i64 a0_1] 25 (0, 0)) (by (with_reducible repeat (first | refine blk_drewN ?_ _ | refine blk_drew ?_ | refine blk_alloc ?_ _)); exact BK191.out) hb)
  have n1_ := Aside0.mk (blk_below (g := gb192) (o := .cells #[.int .i64 a1_0, .int .i64 a1_1] 25 (0, 0)) (by (with_reducible repeat (first | refine blk_drewN ?_ _ | refine blk_drew ?_ | refine blk_alloc ?_ _)); exact BK192.out) hb)
  have n2_ := Aside0.mk (blk_below (g := gb193) (o := .cells #[.int .i64 a2_0, .int .i64 a2_1] 25 (0, 0)) (by (with_reducible repeat (first | refine blk_drewN ?_ _ | refine blk_drew ?_ | refine blk_alloc ?_ _)); exact BK193.out) hb)
  have n3_ := Aside0.mk (blk_below (g := gb198) (o := .cells #[.int .i64 t194, .int .i64 t195] 25 (0, 0)) (by (with_reducible repeat (first | refine blk_drewN ?_ _ | refine blk_drew ?_ | refine blk_alloc ?_ _)); exact BK198.out) hb)
  have n4_ := Aside0.mk (blk_below (g := gb199) (o := .cells #[.int .i64 t196, .int .i64 t197] 25 (0, 0)) (by (with_reducible repeat (first | refine blk_drewN ?_ _ | refine blk_drew ?_ | refine blk_alloc ?_ _)); exact BK199.out) hb)
  have n5_ := Aside0.mk (below_step (by repeat (first | (with_reducible first | exact HB.out | apply below_alloc | apply pw_below_drewN | apply below_drew1 | refine below_set ?_ GE191.out | refine below_set ?_ GE192.out | refine below_set ?_ GE193.out | refine below_set ?_ GE198.out | refine below_set ?_ GE199.out) | exact HB.out)) hb)
  clear BK191; clear BK192; clear BK193; clear BK198; clear BK199; clear HB; have BK191 := n0_; have BK192 := n1_; have BK193 := n2_; have BK198 := n3_; have BK199 := n4_; have HB := n5_; clear n0_ n1_ n2_ n3_ n4_ n5_
  (try clear hb)
  (try clear hb2)
  (try clear hk)
  (try clear hi)
  refine hK.out _ _ ⟨(blk_cell BK198.out 0).trans rfl, (blk_cell BK198.out 1).trans rfl, (blk_cell BK199.out 0).trans rfl, (blk_cell BK199.out 1).trans rfl⟩ (fun hHeld => ?_)
  clear hK K
  refine norm_ (a' := ?_) ?_ ?_
  rotate_left
  · show Act.put _ (some 21) _ = _
    simp only [Act.put, List.setIfInBounds_toArray, List.set_cons_zero, List.set_cons_succ, i64_w, i32_w]; rfl
  refine one_ (i := 5) (N := some 24) #[true, true, true, true, true, true, false, false] rfl rfl (one_of HT_.out (by kernel_rfl)) (by decide) (fun K hK => ?_)
  refine goes_ Try.func55 (by kernel_rfl) rfl #[.agg #[.int .i64 t194, .int .i64 t195], .agg #[.int .i64 t194, .int .i64 t195]] (by rfl) rfl rfl (by (try simp only [List.map_toArray, List.map_cons, List.map_nil]); first | done | rfl | (simp only [List.length_drop, List.length_take]; rfl)) ?_
  with_reducible refine (plane_Dot.calls t194 t195 t194 t195 t201 _ A8.out).mono ?_
  rintro e wza10 ⟨rfl, hb⟩
  refine ⟨_, rfl, ?_⟩
  have n0_ := Aside0.mk (blk_below (g := gb191) (o := .cells #[.int .i64 a0_0, .int .i64 a0_1] 25 (0, 0)) (by (with_reducible repeat (first | refine blk_drewN ?_ _ | refine blk_drew ?_ | refine blk_alloc ?_ _)); exact BK191.out) hb)
  have n1_ := Aside0.mk (blk_below (g := gb192) (o := .cells #[.int .i64 a1_0, .int .i64 a1_1] 25 (0, 0)) (by (with_reducible repeat (first | refine blk_drewN ?_ _ | refine blk_drew ?_ | refine blk_alloc ?_ _)); exact BK192.out) hb)
  have n2_ := Aside0.mk (blk_below (g := gb193) (o := .cells #[.int .i64 a2_0, .int .i64 a2_1] 25 (0, 0)) (by (with_reducible repeat (first | refine blk_drewN ?_ _ | refine blk_drew ?_ | refine blk_alloc ?_ _)); exact BK193.out) hb)
  have n3_ := Aside0.mk (blk_below (g := gb198) (o := .cells #[.int .i64 t194, .int .i64 t195] 25 (0, 0)) (by (with_reducible repeat (first | refine blk_drewN ?_ _ | refine blk_drew ?_ | refine blk_alloc ?_ _)); exact BK198.out) hb)
  have n4_ := Aside0.mk (blk_below (g := gb199) (o := .cells #[.int .i64 t196, .int .i64 t197] 25 (0, 0)) (by (with_reducible repeat (first | refine blk_drewN ?_ _ | refine blk_drew ?_ | refine blk_alloc ?_ _)); exact BK199.out) hb)
  have n5_ := Aside0.mk (below_step (by repeat (first | (with_reducible first | exact HB.out | apply below_alloc | apply pw_below_drewN | apply below_drew1 | refine below_set ?_ GE191.out | refine below_set ?_ GE192.out | refine below_set ?_ GE193.out | refine below_set ?_ GE198.out | refine below_set ?_ GE199.out) | exact HB.out)) hb)
  clear BK191; clear BK192; clear BK193; clear BK198; clear BK199; clear HB; have BK191 := n0_; have BK192 := n1_; have BK193 := n2_; have BK198 := n3_; have BK199 := n4_; have HB := n5_; clear n0_ n1_ n2_ n3_ n4_ n5_
  (try clear hb)
  (try clear hb2)
  (try clear hk)
  (try clear hi)
  refine hK.out _ _ ⟨(blk_cell BK198.out 0).trans rfl, (blk_cell BK198.out 1).trans rfl, (blk_cell BK199.out 0).trans rfl, (blk_cell BK199.out 1).trans rfl⟩ (fun hHeld => ?_)
  clear hK K
  refine norm_ (a' := ?_) ?_ ?_
  rotate_left
  · show Act.put _ (some 24) _ = _
    simp only [Act.put, List.setIfInBounds_toArray, List.set_cons_zero, List.set_cons_succ, i64_w, i32_w]; rfl
  refine pure_ (i := 6) (N := some 11) (v := ?_) (a' := ?_) #[true, true, true, true, true, true, true, false] rfl rfl (any_of HT_.out (by kernel_rfl)) (fun _ _ _ h => h) (Or.inl ⟨by rfl, ?_⟩) ?_ ?_
  rotate_left
  · intro w'; go_simp; with_reducible rfl
  rotate_left
  · simp only [Act.put, List.setIfInBounds_toArray, List.set_cons_zero, List.set_cons_succ, i64_w, i32_w]; rfl
  refine pure_ (i := 7) (N := some 12) (v := ?_) (a' := ?_) #[true, true, true, true, true, true, true, true] rfl rfl (any_of HT_.out (by kernel_rfl)) (fun _ _ _ h => h) (Or.inl ⟨by rfl, ?_⟩) ?_ ?_
  rotate_left
  · intro w'; go_simp; with_reducible rfl
  rotate_left
  · simp only [Act.put, List.setIfInBounds_toArray, List.set_cons_zero, List.set_cons_succ, i64_w, i32_w]; rfl
  refine done_ (done_of HT_.out (by kernel_rfl)) ?_
  first
   | clear hm1_0; have hnbza1 := NB191_192.out; have hncza1 := NB192_191.out; have hnbza2 := NB191_193.out; have hncza2 := NB193_191.out; have hnbza3 := NB191_198.out; have hncza3 := NB198_191.out; have hnbza4 := NB191_199.out; have hncza4 := NB199_191.out
     have hczza1 : wza10.cell? ⟨gb191, 0, none⟩ = some (.int .i64 a0_0) := (blk_cell BK191.out 0).trans rfl
     have hczza2 : wza10.cell? ⟨gb191, 1, none⟩ = some (.int .i64 a0_1) := (blk_cell BK191.out 1).trans rfl
     have hfzza1 := blk_frozen BK191.out 0; have hfzza2 := blk_frozen BK191.out 1; have hnbza5 := NB193_192.out; have hncza5 := NB192_193.out; have hnbza6 := NB193_198.out; have hncza6 := NB198_193.out; have hnbza7 := NB193_199.out; have hncza7 := NB199_193.out
     have hczza3 : wza10.cell? ⟨gb193, 0, none⟩ = some (.int .i64 a2_0) := (blk_cell BK193.out 0).trans rfl
     have hczza4 : wza10.cell? ⟨gb193, 1, none⟩ = some (.int .i64 a2_1) := (blk_cell BK193.out 1).trans rfl
     have hfzza3 := blk_frozen BK193.out 0; have hfzza4 := blk_frozen BK193.out 1
     try go_wp2_with (first | ((with_reducible refine gate_callee (f := 18) rfl ?_); refine goesL_ (some 31) rfl rfl Try.func18 (by kernel_rfl) rfl #[.agg #[.int .i64 a0_0, .int .i64 a0_1], .agg #[.int .i64 a2_0, .int .i64 a2_1], .int .i64 a3] rfl (by (try simp only [List.map_toArray, List.map_cons, List.map_nil]); first | done | rfl | (simp only [List.length_drop, List.length_take]; rfl)) ?_; (with_reducible refine (plane_Within.calls a0_0 a0_1 a2_0 a2_1 a3 t202 _ A10.out).mono ?_); rintro e wx60971 ⟨rfl, hb⟩; refine ⟨_, rfl, ?_⟩; have n0_ := Aside0.mk (blk_below (g := gb191) (o := .cells #[.int .i64 a0_0, .int .i64 a0_1] 25 (0, 0)) (by (with_reducible repeat (first | refine blk_drewN ?_ _ | refine blk_drew ?_ | refine blk_alloc ?_ _)); exact BK191.out) hb); have n1_ := Aside0.mk (blk_below (g := gb192) (o := .cells #[.int .i64 a1_0, .int .i64 a1_1] 25 (0, 0)) (by (with_reducible repeat (first | refine blk_drewN ?_ _ | refine blk_drew ?_ | refine blk_alloc ?_ _)); exact BK192.out) hb); have n2_ := Aside0.mk (blk_below (g := gb193) (o := .cells #[.int .i64 a2_0, .int .i64 a2_1] 25 (0, 0)) (by (with_reducible repeat (first | refine blk_drewN ?_ _ | refine blk_drew ?_ | refine blk_alloc ?_ _)); exact BK193.out) hb); have n3_ := Aside0.mk (blk_below (g := gb198) (o := .cells #[.int .i64 t194, .int .i64 t195] 25 (0, 0)) (by (with_reducible repeat (first | refine blk_drewN ?_ _ | refine blk_drew ?_ | refine blk_alloc ?_ _)); exact BK198.out) hb); have n4_ := Aside0.mk (blk_below (g := gb199) (o := .cells #[.int .i64 t196, .int .i64 t197] 25 (0, 0)) (by (with_reducible repeat (first | refine blk_drewN ?_ _ | refine blk_drew ?_ | refine blk_alloc ?_ _)); exact BK199.out) hb); have n5_ := Aside0.mk (below_step (by repeat (first | (with_reducible first | exact HB.out | apply below_alloc | apply pw_below_drewN | apply below_drew1 | refine below_set ?_ GE191.out | refine below_set ?_ GE192.out | refine below_set ?_ GE193.out | refine below_set ?_ GE198.out | refine below_set ?_ GE199.out) | exact HB.out)) hb); clear BK191; clear BK192; clear BK193; clear BK198; clear BK199; clear HB; have BK191 := n0_; have BK192 := n1_; have BK193 := n2_; have BK198 := n3_; have BK199 := n4_; have HB := n5_; clear n0_ n1_ n2_ n3_ n4_ n5_; (try clear hb); (try clear hb2); (try clear hk); (try clear hi)))
     go_ret
     exact ⟨by first | rfl | (simp [errW_none, errW_some] <;> rfl) | (simp [*, errW_none, errW_some] <;> rfl), by repeat (first | (with_reducible first | exact HB.out | apply below_alloc | apply pw_below_drewN | apply below_drew1 | refine below_set ?_ GE191.out | refine below_set ?_ GE192.out | refine below_set ?_ GE193.out | refine below_set ?_ GE198.out | refine below_set ?_ GE199.out) | exact HB.out)⟩
   | clear hm1_1; have hnbza1 := NB192_191.out; have hncza1 := NB191_192.out; have hnbza2 := NB192_193.out; have hncza2 := NB193_192.out; have hnbza3 := NB192_198.out; have hncza3 := NB198_192.out; have hnbza4 := NB192_199.out; have hncza4 := NB199_192.out
     have hczza1 : wza10.cell? ⟨gb192, 0, none⟩ = some (.int .i64 a1_0) := (blk_cell BK192.out 0).trans rfl
     have hczza2 : wza10.cell? ⟨gb192, 1, none⟩ = some (.int .i64 a1_1) := (blk_cell BK192.out 1).trans rfl
     have hfzza1 := blk_frozen BK192.out 0; have hfzza2 := blk_frozen BK192.out 1; have hnbza5 := NB193_191.out; have hncza5 := NB191_193.out; have hnbza6 := NB193_198.out; have hncza6 := NB198_193.out; have hnbza7 := NB193_199.out; have hncza7 := NB199_193.out
     have hczza3 : wza10.cell? ⟨gb193, 0, none⟩ = some (.int .i64 a2_0) := (blk_cell BK193.out 0).trans rfl
     have hczza4 : wza10.cell? ⟨gb193, 1, none⟩ = some (.int .i64 a2_1) := (blk_cell BK193.out 1).trans rfl
     have hfzza3 := blk_frozen BK193.out 0; have hfzza4 := blk_frozen BK193.out 1
     try go_wp2_with (first | ((with_reducible refine gate_callee (f := 18) rfl ?_); refine goesL_ (some 39) rfl rfl Try.func18 (by kernel_rfl) rfl #[.agg #[.int .i64 a1_0, .int .i64 a1_1], .agg #[.int .i64 a2_0, .int .i64 a2_1], .int .i64 a3] rfl (by (try simp only [List.map_toArray, List.map_cons, List.map_nil]); first | done | rfl | (simp only [List.length_drop, List.length_take]; rfl)) ?_; (with_reducible refine (plane_Within.calls a1_0 a1_1 a2_0 a2_1 a3 t203 _ A39.out).mono ?_); rintro e wx94721 ⟨rfl, hb⟩; refine ⟨_, rfl, ?_⟩; have n0_ := Aside0.mk (blk_below (g := gb191) (o := .cells #[.int .i64 a0_0, .int .i64 a0_1] 25 (0, 0)) (by (with_reducible repeat (first | refine blk_drewN ?_ _ | refine blk_drew ?_ | refine blk_alloc ?_ _)); exact BK191.out) hb); have n1_ := Aside0.mk (blk_below (g := gb192) (o := .cells #[.int .i64 a1_0, .int .i64 a1_1] 25 (0, 0)) (by (with_reducible repeat (first | refine blk_drewN ?_ _ | refine blk_drew ?_ | refine blk_alloc ?_ _)); exact BK192.out) hb); have n2_ := Aside0.mk (blk_below (g := gb193) (o := .cells #[.int .i64 a2_0, .int .i64 a2_1] 25 (0, 0)) (by (with_reducible repeat (first | refine blk_drewN ?_ _ | refine blk_drew ?_ | refine blk_alloc ?_ _)); exact BK193.out) hb); have n3_ := Aside0.mk (blk_below (g := gb198) (o := .cells #[.int .i64 t194, .int .i64 t195] 25 (0, 0)) (by (with_reducible repeat (first | refine blk_drewN ?_ _ | refine blk_drew ?_ | refine blk_alloc ?_ _)); exact BK198.out) hb); have n4_ := Aside0.mk (blk_below (g := gb199) (o := .cells #[.int .i64 t196, .int .i64 t197] 25 (0, 0)) (by (with_reducible repeat (first | refine blk_drewN ?_ _ | refine blk_drew ?_ | refine blk_alloc ?_ _)); exact BK199.out) hb); have n5_ := Aside0.mk (below_step (by repeat (first | (with_reducible first | exact HB.out | apply below_alloc | apply pw_below_drewN | apply below_drew1 | refine below_set ?_ GE191.out | refine below_set ?_ GE192.out | refine below_set ?_ GE193.out | refine below_set ?_ GE198.out | refine below_set ?_ GE199.out) | exact HB.out)) hb); clear BK191; clear BK192; clear BK193; clear BK198; clear BK199; clear HB; have BK191 := n0_; have BK192 := n1_; have BK193 := n2_; have BK198 := n3_; have BK199 := n4_; have HB := n5_; clear n0_ n1_ n2_ n3_ n4_ n5_; (try clear hb); (try clear hb2); (try clear hk); (try clear hi)))
     go_ret
     exact ⟨by first | rfl | (simp [errW_none, errW_some] <;> rfl) | (simp [*, errW_none, errW_some] <;> rfl), by repeat (first | (with_reducible first | exact HB.out | apply below_alloc | apply pw_below_drewN | apply below_drew1 | refine below_set ?_ GE191.out | refine below_set ?_ GE192.out | refine below_set ?_ GE193.out | refine below_set ?_ GE198.out | refine below_set ?_ GE199.out) | exact HB.out)⟩
   | clear hm1_2; have hnbza1 := NB198_191.out; have hncza1 := NB191_198.out; have hnbza2 := NB198_192.out; have hncza2 := NB192_198.out; have hnbza3 := NB198_193.out; have hncza3 := NB193_198.out; have hnbza4 := NB198_199.out; have hncza4 := NB199_198.out
     have hczza1 : wza10.cell? ⟨gb198, 0, none⟩ = some (.int .i64 t194) := (blk_cell BK198.out 0).trans rfl
     have hczza2 : wza10.cell? ⟨gb198, 1, none⟩ = some (.int .i64 t195) := (blk_cell BK198.out 1).trans rfl
     have hfzza1 := blk_frozen BK198.out 0; have hfzza2 := blk_frozen BK198.out 1; have hnbza5 := NB199_191.out; have hncza5 := NB191_199.out; have hnbza6 := NB199_192.out; have hncza6 := NB192_199.out; have hnbza7 := NB199_193.out; have hncza7 := NB193_199.out
     have hczza3 : wza10.cell? ⟨gb199, 0, none⟩ = some (.int .i64 t196) := (blk_cell BK199.out 0).trans rfl
     have hczza4 : wza10.cell? ⟨gb199, 1, none⟩ = some (.int .i64 t197) := (blk_cell BK199.out 1).trans rfl
     have hfzza3 := blk_frozen BK199.out 0; have hfzza4 := blk_frozen BK199.out 1
     try go_wp2_with (first | ((with_reducible refine gate_callee (f := 52) rfl ?_); refine goesL_ (some 42) rfl rfl Try.func52 (by kernel_rfl) rfl #[.agg #[.int .i64 t194, .int .i64 t195], .agg #[.int .i64 t196, .int .i64 t197]] rfl (by (try simp only [List.map_toArray, List.map_cons, List.map_nil]); first | done | rfl | (simp only [List.length_drop, List.length_take]; rfl)) ?_; (with_reducible refine (plane_Cross.calls t194 t195 t196 t197 t204 _ A67.out).mono ?_); rintro e wx9a4f1 ⟨rfl, hb⟩; refine ⟨_, rfl, ?_⟩; have n0_ := Aside0.mk (blk_below (g := gb191) (o := .cells #[.int .i64 a0_0, .int .i64 a0_1] 25 (0, 0)) (by (with_reducible repeat (first | refine blk_drewN ?_ _ | refine blk_drew ?_ | refine blk_alloc ?_ _)); exact BK191.out) hb); have n1_ := Aside0.mk (blk_below (g := gb192) (o := .cells #[.int .i64 a1_0, .int .i64 a1_1] 25 (0, 0)) (by (with_reducible repeat (first | refine blk_drewN ?_ _ | refine blk_drew ?_ | refine blk_alloc ?_ _)); exact BK192.out) hb); have n2_ := Aside0.mk (blk_below (g := gb193) (o := .cells #[.int .i64 a2_0, .int .i64 a2_1] 25 (0, 0)) (by (with_reducible repeat (first | refine blk_drewN ?_ _ | refine blk_drew ?_ | refine blk_alloc ?_ _)); exact BK193.out) hb); have n3_ := Aside0.mk (blk_below (g := gb198) (o := .cells #[.int .i64 t194, .int .i64 t195] 25 (0, 0)) (by (with_reducible repeat (first | refine blk_drewN ?_ _ | refine blk_drew ?_ | refine blk_alloc ?_ _)); exact BK198.out) hb); have n4_ := Aside0.mk (blk_below (g := gb199) (o := .cells #[.int .i64 t196, .int .i64 t197] 25 (0, 0)) (by (with_reducible repeat (first | refine blk_drewN ?_ _ | refine blk_drew ?_ | refine blk_alloc ?_ _)); exact BK199.out) hb); have n5_ := Aside0.mk (below_step (by repeat (first | (with_reducible first | exact HB.out | apply below_alloc | apply pw_below_drewN | apply below_drew1 | refine below_set ?_ GE191.out | refine below_set ?_ GE192.out | refine below_set ?_ GE193.out | refine below_set ?_ GE198.out | refine below_set ?_ GE199.out) | exact HB.out)) hb); clear BK191; clear BK192; clear BK193; clear BK198; clear BK199; clear HB; have BK191 := n0_; have BK192 := n1_; have BK193 := n2_; have BK198 := n3_; have BK199 := n4_; have HB := n5_; clear n0_ n1_ n2_ n3_ n4_ n5_; (try clear hb); (try clear hb2); (try clear hk); (try clear hi)) | ((with_reducible refine gate_callee (f := 75) rfl ?_); refine goesL_ (some 45) rfl rfl Try.func75 (by kernel_rfl) rfl #[.int .i64 t204, .int .i64 a3, .int .i64 t201] rfl (by (try simp only [List.map_toArray, List.map_cons, List.map_nil]); first | done | rfl | (simp only [List.length_drop, List.length_take]; rfl)) ?_; (with_reducible refine (polygon_atMost.calls t204 a3 t201 t205 _ A68.out).mono ?_); rintro e wx17a51 ⟨rfl, hb⟩; refine ⟨_, rfl, ?_⟩; have n0_ := Aside0.mk (blk_below (g := gb191) (o := .cells #[.int .i64 a0_0, .int .i64 a0_1] 25 (0, 0)) (by (with_reducible repeat (first | refine blk_drewN ?_ _ | refine blk_drew ?_ | refine blk_alloc ?_ _)); exact BK191.out) hb); have n1_ := Aside0.mk (blk_below (g := gb192) (o := .cells #[.int .i64 a1_0, .int .i64 a1_1] 25 (0, 0)) (by (with_reducible repeat (first | refine blk_drewN ?_ _ | refine blk_drew ?_ | refine blk_alloc ?_ _)); exact BK192.out) hb); have n2_ := Aside0.mk (blk_below (g := gb193) (o := .cells #[.int .i64 a2_0, .int .i64 a2_1] 25 (0, 0)) (by (with_reducible repeat (first | refine blk_drewN ?_ _ | refine blk_drew ?_ | refine blk_alloc ?_ _)); exact BK193.out) hb); have n3_ := Aside0.mk (blk_below (g := gb198) (o := .cells #[.int .i64 t194, .int .i64 t195] 25 (0, 0)) (by (with_reducible repeat (first | refine blk_drewN ?_ _ | refine blk_drew ?_ | refine blk_alloc ?_ _)); exact BK198.out) hb); have n4_ := Aside0.mk (blk_below (g := gb199) (o := .cells #[.int .i64 t196, .int .i64 t197] 25 (0, 0)) (by (with_reducible repeat (first | refine blk_drewN ?_ _ | refine blk_drew ?_ | refine blk_alloc ?_ _)); exact BK199.out) hb); have n5_ := Aside0.mk (below_step (by repeat (first | (with_reducible first | exact HB.out | apply below_alloc | apply pw_below_drewN | apply below_drew1 | refine below_set ?_ GE191.out | refine below_set ?_ GE192.out | refine below_set ?_ GE193.out | refine below_set ?_ GE198.out | refine below_set ?_ GE199.out) | exact HB.out)) hb); clear BK191; clear BK192; clear BK193; clear BK198; clear BK199; clear HB; have BK191 := n0_; have BK192 := n1_; have BK193 := n2_; have BK198 := n3_; have BK199 := n4_; have HB := n5_; clear n0_ n1_ n2_ n3_ n4_ n5_; (try clear hb); (try clear hb2); (try clear hk); (try clear hi)))
     go_ret
     exact ⟨by first | rfl | (simp [errW_none, errW_some] <;> rfl) | (simp [*, errW_none, errW_some] <;> rfl), by repeat (first | (with_reducible first | exact HB.out | apply below_alloc | apply pw_below_drewN | apply below_drew1 | refine below_set ?_ GE191.out | refine below_set ?_ GE192.out | refine below_set ?_ GE193.out | refine below_set ?_ GE198.out | refine below_set ?_ GE199.out) | exact HB.out)⟩

end Go.Proofs.Yteaddpieonkboaa.PPolygonTurned
