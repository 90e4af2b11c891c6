/- Made by a program of this session (wip/tools/myprint.py, over the kit's printer): that the Go functions answer as the Lean functions printed beside them. -/
import Derived.Test.YteaddpieonkboabPTubeShiftsx0
import Derived.Test.YteaddpieonkboabPTubeShiftsx1
import Derived.Test.YteaddpieonkboabPTubeShiftsx2
import Derived.Test.YteaddpieonkboabPTubeShiftsx6
import Derived.Test.YteaddpieonkboabPTubeShiftsx7
namespace Go.Proofs.Yteaddpieonkboab.PTubeShifts
open Go.RowKit Go.Proofs.YteaddpieonkboabW.PrintWords Go.Proofs.YteaddpieonkboabW.PrintLast Go.Proofs.YteaddpieonkboabW.PrintMore
attribute [local go_sem] max2_int min2_int max_two min_two max_three min_three max_four min_four   -- for this text's walks alone
set_option linter.unusedVariables false
set_option linter.unusedSimpArgs false

attribute [local go_sem high] eqA30
/-! ### plane_Add: function 24 -/
def plane_Add.f (a0_0 : Int) (a0_1 : Int) (a1_0 : Int) (a1_1 : Int) : Option (Int × Int) := some (wrap64 (a0_0 + a1_0), wrap64 (a0_1 + a1_1))
set_option maxHeartbeats 8000000 in
set_option maxRecDepth 100000 in
theorem plane_Add.calls (a0_0 : Int) (a0_1 : Int) (a1_0 : Int) (a1_1 : Int) (r1 : Int) (r2 : Int) (w : World) (h : plane_Add.f a0_0 a0_1 a1_0 a1_1 = some (r1, r2)) :
    Calls Try.prog 24 #[.agg #[.int .i64 a0_0, .int .i64 a0_1], .agg #[.int .i64 a1_0, .int .i64 a1_1]] w fun e w' => e = .returned (.agg #[.int .i64 r1, .int .i64 r2]) ∧ Below w.heap.size w w' := by
 have hu26 := Try.underlying26
 have HB := Aside0.mk (Below.refl w.heap.size w)
 have H : (some (wrap64 (a0_0 + a1_0), wrap64 (a0_1 + a1_1))) = some (r1, r2) := h
 clear h
 simp only [Option.some.injEq, Prod.mk.injEq] at H
 obtain ⟨rfl, rfl⟩ := H
 go_enter Try.func24, Try.ntmps24
 go_wp2_with (first | ((with_reducible refine gate_dst (N := 2) rfl ?_); refine box_event ?hg (N := 2) ?hd (cs := #[.int .i64 a0_0, .int .i64 a0_1]) (t := 26) ?hr ?_; (case hd => rfl); (case hg => rfl); (case hr => first | (go_simp; done) | (go_simp; rfl)); intro gb203 hg w3 hbox hb; have n0_ := Aside0.mk (below_step (by repeat (first | (with_reducible first | exact HB.out | apply below_alloc | apply pw_below_drewN | apply below_drew1) | exact HB.out)) hb); have n1_ := Aside0.mk (hbox); have n2_ := Aside0.mk ((by rw [hg]; exact (below_size (by repeat (first | (with_reducible first | exact HB.out | apply below_alloc | apply pw_below_drewN | apply below_drew1) | exact HB.out))) : w.heap.size ≤ gb203)); have n3_ := Aside0.mk ((by rw [hg]; exact (below_size (by repeat (first | (with_reducible first | exact HB.out | apply below_alloc | apply pw_below_drewN | apply below_drew1) | exact HB.out))) : w.heap.size ≤ gb203)); clear HB; have HB := n0_; have BK203 := n1_; have GW203 := n2_; have GE203 := n3_; clear n0_ n1_ n2_ n3_; clear hb hbox hg) | ((with_reducible refine gate_dst (N := 3) rfl ?_); refine box_event ?hg (N := 3) ?hd (cs := #[.int .i64 a1_0, .int .i64 a1_1]) (t := 26) ?hr ?_; (case hd => rfl); (case hg => rfl); (case hr => first | (go_simp; done) | (go_simp; rfl)); intro gb204 hg w4 hbox hb; have n0_ := Aside0.mk (blk_below (g := gb203) (o := .cells #[.int .i64 a0_0, .int .i64 a0_1] 26 (0, 0)) (by (with_reducible repeat (first | refine blk_drewN ?_ _ | refine blk_drew ?_ | refine blk_alloc ?_ _)); exact BK203.out) hb); have n1_ := Aside0.mk (below_step (by repeat (first | (with_reducible first | exact HB.out | apply below_alloc | apply pw_below_drewN | apply below_drew1 | refine below_set ?_ GE203.out) | exact HB.out)) hb); have n2_ := Aside0.mk (hbox); have n3_ := Aside0.mk ((by rw [hg]; exact (below_size (by repeat (first | (with_reducible first | exact HB.out | apply below_alloc | apply pw_below_drewN | apply below_drew1 | refine below_set ?_ GE203.out) | exact HB.out))) : w.heap.size ≤ gb204)); have n4_ := Aside0.mk ((by rw [hg]; exact (below_size (by repeat (first | (with_reducible first | exact HB.out | apply below_alloc | apply pw_below_drewN | apply below_drew1 | refine below_set ?_ GE203.out) | exact HB.out))) : w.heap.size ≤ gb204)); have n5_ := Aside0.mk ((by rw [hg]; exact Nat.ne_of_lt (blk_lt (g := gb203) (o := .cells #[.int .i64 a0_0, .int .i64 a0_1] 26 (0, 0)) (by (with_reducible repeat (first | refine blk_drewN ?_ _ | refine blk_drew ?_ | refine blk_alloc ?_ _)); exact BK203.out)) : gb203 ≠ gb204)); have n6_ := Aside0.mk ((by rw [hg]; exact Nat.ne_of_gt (blk_lt (g := gb203) (o := .cells #[.int .i64 a0_0, .int .i64 a0_1] 26 (0, 0)) (by (with_reducible repeat (first | refine blk_drewN ?_ _ | refine blk_drew ?_ | refine blk_alloc ?_ _)); exact BK203.out)) : gb204 ≠ gb203)); clear BK203; clear HB; have BK203 := n0_; have HB := n1_; have BK204 := n2_; have GW204 := n3_; have GE204 := n4_; have NB203_204 := n5_; have NB204_203 := n6_; clear n0_ n1_ n2_ n3_ n4_ n5_ n6_; clear hb hbox hg) | ((with_reducible refine gate_dst (N := 4) rfl ?_); refine box_event ?hg (N := 4) ?hd (cs := #[.int .i64 0, .int .i64 0]) (t := 26) ?hr ?_; (case hd => rfl); (case hg => rfl); (case hr => first | (go_simp; done) | (go_simp; rfl)); intro gb205 hg w5 hbox hb; have n0_ := Aside0.mk (blk_below (g := gb203) (o := .cells #[.int .i64 a0_0, .int .i64 a0_1] 26 (0, 0)) (by (with_reducible repeat (first | refine blk_drewN ?_ _ | refine blk_drew ?_ | refine blk_alloc ?_ _)); exact BK203.out) hb); have n1_ := Aside0.mk (blk_below (g := gb204) (o := .cells #[.int .i64 a1_0, .int .i64 a1_1] 26 (0, 0)) (by (with_reducible repeat (first | refine blk_drewN ?_ _ | refine blk_drew ?_ | refine blk_alloc ?_ _)); exact BK204.out) hb); have n2_ := Aside0.mk (below_step (by repeat (first | (with_reducible first | exact HB.out | apply below_alloc | apply pw_below_drewN | apply below_drew1 | refine below_set ?_ GE203.out | refine below_set ?_ GE204.out) | exact HB.out)) hb); have n3_ := Aside0.mk (hbox); have n4_ := Aside0.mk ((by rw [hg]; exact (below_size (by repeat (first | (with_reducible first | exact HB.out | apply below_alloc | apply pw_below_drewN | apply below_drew1 | refine below_set ?_ GE203.out | refine below_set ?_ GE204.out) | exact HB.out))) : w.heap.size ≤ gb205)); have n5_ := Aside0.mk ((by rw [hg]; exact (below_size (by repeat (first | (with_reducible first | exact HB.out | apply below_alloc | apply pw_below_drewN | apply below_drew1 | refine below_set ?_ GE203.out | refine below_set ?_ GE204.out) | exact HB.out))) : w.heap.size ≤ gb205)); have n6_ := Aside0.mk ((by rw [hg]; exact Nat.ne_of_lt (blk_lt (g := gb203) (o := .cells #[.int .i64 a0_0, .int .i64 a0_1] 26 (0, 0)) (by (with_reducible repeat (first | refine blk_drewN ?_ _ | refine blk_drew ?_ | refine blk_alloc ?_ _)); exact BK203.out)) : gb203 ≠ gb205)); have n7_ := Aside0.mk ((by rw [hg]; exact Nat.ne_of_gt (blk_lt (g := gb203) (o := .cells #[.int .i64 a0_0, .int .i64 a0_1] 26 (0, 0)) (by (with_reducible repeat (first | refine blk_drewN ?_ _ | refine blk_drew ?_ | refine blk_alloc ?_ _)); exact BK203.out)) : gb205 ≠ gb203)); have n8_ := Aside0.mk ((by rw [hg]; exact Nat.ne_of_lt (blk_lt (g := gb204) (o := .cells #[.int .i64 a1_0, .int .i64 a1_1] 26 (0, 0)) (by (with_reducible repeat (first | refine blk_drewN ?_ _ | refine blk_drew ?_ | refine blk_alloc ?_ _)); exact BK204.out)) : gb204 ≠ gb205)); have n9_ := Aside0.mk ((by rw [hg]; exact Nat.ne_of_gt (blk_lt (g := gb204) (o := .cells #[.int .i64 a1_0, .int .i64 a1_1] 26 (0, 0)) (by (with_reducible repeat (first | refine blk_drewN ?_ _ | refine blk_drew ?_ | refine blk_alloc ?_ _)); exact BK204.out)) : gb205 ≠ gb204)); clear BK203; clear BK204; clear HB; have BK203 := n0_; have BK204 := n1_; have HB := n2_; have BK205 := n3_; have GW205 := n4_; have GE205 := n5_; have NB203_205 := n6_; have NB205_203 := n7_; have NB204_205 := n8_; have NB205_204 := n9_; clear n0_ n1_ n2_ n3_ n4_ n5_ n6_ n7_ n8_ n9_; clear hb hbox hg; have hnb6 := NB203_204.out; have hnc6 := NB204_203.out; have hnb7 := NB203_205.out; have hnc7 := NB205_203.out; have hcz8_0 : w5.cell? ⟨gb203, 0, none⟩ = some (.int .i64 a0_0) := (blk_cell BK203.out 0).trans rfl; have hcz8_1 : w5.cell? ⟨gb203, 1, none⟩ = some (.int .i64 a0_1) := (blk_cell BK203.out 1).trans rfl; have hfz8_0 := blk_frozen BK203.out 0; have hfz8_1 := blk_frozen BK203.out 1; have hnb9 := NB204_205.out; have hnc9 := NB205_204.out; have hcz10_0 : w5.cell? ⟨gb204, 0, none⟩ = some (.int .i64 a1_0) := (blk_cell BK204.out 0).trans rfl; have hcz10_1 : w5.cell? ⟨gb204, 1, none⟩ = some (.int .i64 a1_1) := (blk_cell BK204.out 1).trans rfl; have hfz10_0 := blk_frozen BK204.out 0; have hfz10_1 := blk_frozen BK204.out 1; have hcz11_0 : w5.cell? ⟨gb205, 0, none⟩ = some (.int .i64 0) := (blk_cell BK205.out 0).trans rfl; have hcz11_1 : w5.cell? ⟨gb205, 1, none⟩ = some (.int .i64 0) := (blk_cell BK205.out 1).trans rfl; have hfz11_0 := blk_frozen BK205.out 0; have hfz11_1 := blk_frozen BK205.out 1))
 refine bodyPost_ret (results_cell_row rfl _ _ gb205 26 #[.int .i64 (wrap64 (a0_0 + a1_0)), .int .i64 (wrap64 (a0_1 + a1_1))] (0, 0) _ rfl (by (with_reducible repeat (first | refine blk_drewN ?_ _ | refine blk_drew ?_ | refine blk_alloc ?_ _)); refine blk_put (cs := #[.int .i64 (wrap64 (a0_0 + a1_0)), .int .i64 0]) ?_ 1 _ rfl; (with_reducible repeat (first | refine blk_drewN ?_ _ | refine blk_drew ?_ | refine blk_alloc ?_ _)); refine blk_put (cs := #[.int .i64 0, .int .i64 0]) ?_ 0 _ rfl; (with_reducible repeat (first | refine blk_drewN ?_ _ | refine blk_drew ?_ | refine blk_alloc ?_ _)); exact BK205.out) Try.underlying26 rfl (by kernel_rfl)) rfl ?_
 exact ⟨by first | rfl | (simp [errW_none, errW_some] <;> rfl) | (simp [*, errW_none, errW_some] <;> rfl), by repeat (first | (with_reducible first | exact HB.out | apply below_alloc | apply pw_below_drewN | apply below_drew1 | refine below_set ?_ GE203.out | refine below_set ?_ GE204.out | refine below_set ?_ GE205.out) | exact HB.out)⟩

/-! ### tube_Shift: function 23 -/
mutual
def tube_Shift.j0 : Nat → List (S30) → Int → Bool → Int → Int → Option ((List (S30)) × Int)
  | 0, _, _, _, _, _ => none
  | k + 1, x0, x2, x43, x207000, x207001 => if x43 = true then (some (([] : List (S30)), 4)) else (tube_Shift.l0 k x2 ([] : List (S30)) x0 (x0.length : Int) 0 x207000 x207001)
def tube_Shift.l0 : Nat → Int → List (S30) → List (S30) → Int → Int → Int → Int → Option ((List (S30)) × Int)
  | 0, _, _, _, _, _, _, _ => none
  | k + 1, x2, x9, x44, x45, x46, x207000, x207001 => if x46 < x45 then (if 0 ≤ x46 then (if x46 < (x44.length : Int) then ((plane_Add.f ((rd_T30 x44 x46).f0.f1.f0) ((rd_T30 x44 x46).f0.f1.f1) x207000 x207001).bind fun bt210 => (if x9.length < 2932031007402 then (tube_Shift.l0 k x2 (x9 ++ [(⟨(⟨wrap64 (((rd_T30 x44 x46).f0.f0) + x2), (⟨bt210.1, bt210.2⟩ : S26), (rd_T30 x44 x46).f0.f2⟩ : S28), (rd_T30 x44 x46).f1, (rd_T30 x44 x46).f2⟩ : S30)]) x44 x45 (wrap64 (x46 + 1)) x207000 x207001) else (none))) else (none)) else (none)) else ((tube_Check.f k x9).bind fun t215 => (if t215 = 0 then (some (x9, 0)) else (some (([] : List (S30)), t215))))
end
def tube_Shift.f (k : Nat) (l0 : List (S30)) (a1_0 : Int) (a1_1 : Int) (a2 : Int) : Option ((List (S30)) × Int) := (tube_Check.f k l0).bind fun t207 => (if t207 = 0 then (if a1_0 < (-2000000) then (tube_Shift.j0 k l0 a2 true a1_0 a1_1) else (if a1_0 > 2000000 then (tube_Shift.j0 k l0 a2 true a1_0 a1_1) else (if a1_1 < (-2000000) then (tube_Shift.j0 k l0 a2 true a1_0 a1_1) else (if a1_1 > 2000000 then (tube_Shift.j0 k l0 a2 true a1_0 a1_1) else (if a2 < (-200000) then (tube_Shift.j0 k l0 a2 true a1_0 a1_1) else (tube_Shift.j0 k l0 a2 (decide (a2 > 200000)) a1_0 a1_1)))))) else (some (([] : List (S30)), t207)))
theorem tube_Shift.mono_l : ∀ k, (∀ y0 y1 y2 y3 y4, LeO (tube_Shift.j0 k y0 y1 y2 y3 y4) (tube_Shift.j0 (k + 1) y0 y1 y2 y3 y4)) ∧ (∀ y0 y1 y2 y3 y4 y5 y6, LeO (tube_Shift.l0 k y0 y1 y2 y3 y4 y5 y6) (tube_Shift.l0 (k + 1) y0 y1 y2 y3 y4 y5 y6))
  | 0 => ⟨fun _ _ _ _ _ r h => by simp [tube_Shift.j0] at h, fun _ _ _ _ _ _ _ r h => by simp [tube_Shift.l0] at h⟩
  | k + 1 => by
    obtain ⟨ih0, ih1⟩ := tube_Shift.mono_l k
    refine ⟨?_, ?_⟩
    · intro y0 y1 y2 y3 y4
      unfold tube_Shift.j0
      repeat' first
      | (with_reducible exact ih0 _ _ _ _ _)
      | (with_reducible exact ih1 _ _ _ _ _ _ _)
      | (with_reducible exact tube_Check.mono _ _)
      | (with_reducible exact LeO.refl _)
      | (with_reducible exact LeO.none _)
      | (with_reducible refine LeO.ite ?_ ?_)
      | (with_reducible refine LeO.bind ?_ (fun _ => ?_))
      | exact ih0 _ _ _ _ _
      | exact ih1 _ _ _ _ _ _ _
      | exact tube_Check.mono _ _
      | exact LeO.none _
      | refine LeO.ite ?_ ?_
      | refine LeO.bind ?_ (fun _ => ?_)
    · intro y0 y1 y2 y3 y4 y5 y6
      unfold tube_Shift.l0
      repeat' first
      | (with_reducible exact ih0 _ _ _ _ _)
      | (with_reducible exact ih1 _ _ _ _ _ _ _)
      | (with_reducible exact tube_Check.mono _ _)
      | (with_reducible exact LeO.refl _)
      | (with_reducible exact LeO.none _)
      | (with_reducible refine LeO.ite ?_ ?_)
      | (with_reducible refine LeO.bind ?_ (fun _ => ?_))
      | exact ih0 _ _ _ _ _
      | exact ih1 _ _ _ _ _ _ _
      | exact tube_Check.mono _ _
      | exact LeO.none _
      | refine LeO.ite ?_ ?_
      | refine LeO.bind ?_ (fun _ => ?_)
theorem tube_Shift.mono : ∀ a0 a1 a2 a3 k, LeO (tube_Shift.f k a0 a1 a2 a3) (tube_Shift.f (k + 1) a0 a1 a2 a3) := by
  intro a0 a1 a2 a3 k
  obtain ⟨ih0, ih1⟩ := tube_Shift.mono_l k
  unfold tube_Shift.f
  repeat' first
      | (with_reducible exact ih0 _ _ _ _ _)
      | (with_reducible exact ih1 _ _ _ _ _ _ _)
      | (with_reducible exact tube_Check.mono _ _)
      | (with_reducible exact LeO.refl _)
      | (with_reducible exact LeO.none _)
      | (with_reducible refine LeO.ite ?_ ?_)
      | (with_reducible refine LeO.bind ?_ (fun _ => ?_))
      | exact ih0 _ _ _ _ _
      | exact ih1 _ _ _ _ _ _ _
      | exact tube_Check.mono _ _
      | exact LeO.none _
      | refine LeO.ite ?_ ?_
      | refine LeO.bind ?_ (fun _ => ?_)
set_option maxHeartbeats 8000000 in
set_option maxRecDepth 100000 in
theorem tube_Shift.calls (k : Nat) (A0 : Option Addr) (c0 : Nat) (l0 : List (S30)) (a1_0 : Int) (a1_1 : Int) (a2 : Int) (r1 : List (S30)) (r2 : Int) (w : World) (hr0 : Kd.C k30 w A0 l0.length l0) (hc0 : l0.length ≤ c0) (h : tube_Shift.f k l0 a1_0 a1_1 a2 = some (r1, r2)) :
    Calls Try.prog 23 #[.slice A0 l0.length c0, .agg #[.int .i64 a1_0, .int .i64 a1_1], .int .i64 a2] w fun e w' => ∃ v0_ : Value, e = .returned (.tuple #[v0_, .int .i64 r2]) ∧ Kd.R k30 30 w' w.heap.size (fun _ => True) v0_ r1 ∧ Below w.heap.size w w' := by
 have hu26 := Try.underlying26
 have hu30 := Try.underlying30
 have HR0 := Aside0.mk hr0
 have HC0 := Aside0.mk hc0
 clear hr0 hc0
 have HB := Aside0.mk (Below.refl w.heap.size w)
 have H : ((tube_Check.f k l0).bind fun t207 => (if t207 = 0 then (if a1_0 < (-2000000) then (tube_Shift.j0 k l0 a2 true a1_0 a1_1) else (if a1_0 > 2000000 then (tube_Shift.j0 k l0 a2 true a1_0 a1_1) else (if a1_1 < (-2000000) then (tube_Shift.j0 k l0 a2 true a1_0 a1_1) else (if a1_1 > 2000000 then (tube_Shift.j0 k l0 a2 true a1_0 a1_1) else (if a2 < (-200000) then (tube_Shift.j0 k l0 a2 true a1_0 a1_1) else (tube_Shift.j0 k l0 a2 (decide (a2 > 200000)) a1_0 a1_1)))))) else (some (([] : List (S30)), t207)))) = some (r1, r2) := h
 clear h
 replace H := Option.bind_eq_some_iff.mp H
 obtain ⟨t207, A40, H⟩ := H
 replace H : (if t207 = 0 then (if a1_0 < (-2000000) then (tube_Shift.j0 k l0 a2 true a1_0 a1_1) else (if a1_0 > 2000000 then (tube_Shift.j0 k l0 a2 true a1_0 a1_1) else (if a1_1 < (-2000000) then (tube_Shift.j0 k l0 a2 true a1_0 a1_1) else (if a1_1 > 2000000 then (tube_Shift.j0 k l0 a2 true a1_0 a1_1) else (if a2 < (-200000) then (tube_Shift.j0 k l0 a2 true a1_0 a1_1) else (tube_Shift.j0 k l0 a2 (decide (a2 > 200000)) a1_0 a1_1)))))) else (some (([] : List (S30)), t207))) = some (r1, r2) := H
 have A4 := Aside0.mk A40
 clear A40
 refine Or.elim (Classical.em (t207 = 0)) (fun c5 => ?p2_) (fun c5 => ?n2_)
 case' p2_ =>
  rw [if_pos c5] at H
  have c5b0 : (t207 == 0) = true := beq_iff_eq.mpr c5
  have c5b1 : (t207 != 0) = false := bne_eq_false_iff_eq.mpr c5
  clear c5
  have HC6 := Aside0.mk H
  clear H
  have hm1_0 := Aside0.mk trivial
 case' n2_ =>
  rw [if_neg c5] at H
  have c5b0 : (t207 == 0) = false := beq_eq_false_iff_ne.mpr c5
  have c5b1 : (t207 != 0) = true := bne_iff_ne.mpr c5
  simp only [Option.some.injEq, Prod.mk.injEq] at H
  obtain ⟨rfl, rfl⟩ := H
  have hm1_1 := Aside0.mk trivial
 all_goals
  go_enter Try.func23, Try.ntmps23
  first
   | clear hm1_0
     go_upto_region 4 with (first | ((with_reducible refine gate_dst (N := 4) rfl ?_); refine box_event ?hg (N := 4) ?hd (cs := #[.int .i64 a1_0, .int .i64 a1_1]) (t := 26) ?hr ?_; (case hd => rfl); (case hg => rfl); (case hr => first | (go_simp; done) | (go_simp; rfl)); intro gb206 hg wxfa171 hbox hb; have n0_ := Aside0.mk (below_step (by repeat (first | (with_reducible first | exact HB.out | apply below_alloc | apply pw_below_drewN | apply below_drew1) | exact HB.out)) hb); have n1_ := Aside0.mk (hbox); have n2_ := Aside0.mk ((by rw [hg]; exact (below_size (by repeat (first | (with_reducible first | exact HB.out | apply below_alloc | apply pw_below_drewN | apply below_drew1) | exact HB.out))) : w.heap.size ≤ gb206)); have n3_ := Aside0.mk ((by rw [hg]; exact (below_size (by repeat (first | (with_reducible first | exact HB.out | apply below_alloc | apply pw_below_drewN | apply below_drew1) | exact HB.out))) : w.heap.size ≤ gb206)); clear HB; have HB := n0_; have BK206 := n1_; have GW206 := n2_; have GE206 := n3_; clear n0_ n1_ n2_ n3_; clear hb hbox hg) | ((with_reducible refine gate_callee (f := 20) rfl ?_); refine goesL_ (some 14) rfl rfl Try.func20 (by kernel_rfl) rfl #[.slice A0 l0.length c0] rfl (by (try simp only [List.map_toArray, List.map_cons, List.map_nil]); first | done | rfl | (simp only [List.length_drop, List.length_take]; rfl)) ?_; (with_reducible refine (tube_Check.calls k _ _ l0 t207 _ ?side1 ?side2 A4.out).mono ?_); (case side1 => repeat (first | exact (Kd.C_below HR0.out HB.out) | (with_reducible refine Kd.C_alloc ?_ _) | (with_reducible refine Kd.C_drewN ?_ _) | (with_reducible refine Kd.C_drew ?_))); (case side2 => exact HC0.out); rintro e wxaa241 ⟨rfl, hb⟩; refine ⟨_, rfl, ?_⟩; have n0_ := Aside0.mk (blk_below (g := gb206) (o := .cells #[.int .i64 a1_0, .int .i64 a1_1] 26 (0, 0)) (by (with_reducible repeat (first | refine blk_drewN ?_ _ | refine blk_drew ?_ | refine blk_alloc ?_ _)); exact BK206.out) hb); have n1_ := Aside0.mk (below_step (by repeat (first | (with_reducible first | exact HB.out | apply below_alloc | apply pw_below_drewN | apply below_drew1 | refine below_set ?_ GE206.out) | exact HB.out)) hb); clear BK206; clear HB; have BK206 := n0_; have HB := n1_; clear n0_ n1_; (try clear hb); (try clear hb2); (try clear hk); (try clear hi)))
     (try simp only [Act.put, List.setIfInBounds_toArray, List.set_cons_zero, List.set_cons_succ])
     go_cut [43] (fun v43 wc => ∃ (kq : Nat) (x43_5 : Bool), v43 = .bool x43_5 ∧ Aside0 (tube_Shift.j0 kq l0 a2 x43_5 a1_0 a1_1 = some (r1, r2)) ∧ Aside0 (kq ≤ k) ∧ Aside0 (wc.heap[gb206]? = some (.cells #[.int .i64 a1_0, .int .i64 a1_1] 26 (0, 0))) ∧ Aside0 (Below w.heap.size w wc))
     case first =>
      have H := HC6.out
      clear HC6
      refine Or.elim (Classical.em (a1_0 < (-2000000))) (fun c9 => ?p4_) (fun c9 => ?n4_)
      case' p4_ =>
       rw [if_pos c9] at H
       have c9b0 : decide (a1_0 < (-2000000)) = true := decide_eq_true c9
       clear c9
       (first | rw [c9b0] | (simp only [i64_w, i32_w]; rw [c9b0]) | skip)
      case' n4_ =>
       rw [if_neg c9] at H
       have c9b0 : decide (a1_0 < (-2000000)) = false := decide_eq_false c9
       clear c9
       (first | rw [c9b0] | (simp only [i64_w, i32_w]; rw [c9b0]) | skip)
       refine Or.elim (Classical.em (a1_0 > 2000000)) (fun c11 => ?p5_) (fun c11 => ?n5_)
       case' p5_ =>
        rw [if_pos c11] at H
        have c11b0 : decide (2000000 < a1_0) = true := decide_eq_true c11
        clear c11
       case' n5_ =>
        rw [if_neg c11] at H
        have c11b0 : decide (2000000 < a1_0) = false := decide_eq_false c11
        clear c11
        refine Or.elim (Classical.em (a1_1 < (-2000000))) (fun c13 => ?p6_) (fun c13 => ?n6_)
        case' p6_ =>
         rw [if_pos c13] at H
         have c13b0 : decide (a1_1 < (-2000000)) = true := decide_eq_true c13
         clear c13
        case' n6_ =>
         rw [if_neg c13] at H
         have c13b0 : decide (a1_1 < (-2000000)) = false := decide_eq_false c13
         clear c13
         refine Or.elim (Classical.em (a1_1 > 2000000)) (fun c15 => ?p7_) (fun c15 => ?n7_)
         case' p7_ =>
          rw [if_pos c15] at H
          have c15b0 : decide (2000000 < a1_1) = true := decide_eq_true c15
          clear c15
         case' n7_ =>
          rw [if_neg c15] at H
          have c15b0 : decide (2000000 < a1_1) = false := decide_eq_false c15
          clear c15
          refine Or.elim (Classical.em (a2 < (-200000))) (fun c17 => ?p8_) (fun c17 => ?n8_)
          case' p8_ =>
           rw [if_pos c17] at H
           have c17b0 : decide (a2 < (-200000)) = true := decide_eq_true c17
           clear c17
          case' n8_ =>
           rw [if_neg c17] at H
           have c17b0 : decide (a2 < (-200000)) = false := decide_eq_false c17
           clear c17
      all_goals
       have H' := Aside0.mk H
       clear H
       have hczzb1 : wxaa241.cell? ⟨gb206, 0, none⟩ = some (.int .i64 a1_0) := (blk_cell BK206.out 0).trans rfl
       have hczzb2 : wxaa241.cell? ⟨gb206, 1, none⟩ = some (.int .i64 a1_1) := (blk_cell BK206.out 1).trans rfl
       have hfzzb1 := blk_frozen BK206.out 0
       have hfzzb2 := blk_frozen BK206.out 1
       go_wp2
       go_meet
       case rel => first | (exact ⟨_, (true), (by first | rfl | (simp; done) | (simp [*]; done)), H', ⟨by first | omega | exact Nat.le_refl _⟩, ⟨by (with_reducible repeat (first | refine blk_drewN ?_ _ | refine blk_drew ?_ | refine blk_alloc ?_ _)); exact BK206.out⟩, ⟨by repeat (first | (with_reducible first | exact HB.out | apply below_alloc | apply pw_below_drewN | apply below_drew1 | refine below_set ?_ GE206.out) | exact HB.out)⟩⟩) | (exact ⟨_, (decide (a2 > 200000)), (by first | rfl | (simp; done) | (simp [*]; done)), H', ⟨by first | omega | exact Nat.le_refl _⟩, ⟨by (with_reducible repeat (first | refine blk_drewN ?_ _ | refine blk_drew ?_ | refine blk_alloc ?_ _)); exact BK206.out⟩, ⟨by repeat (first | (with_reducible first | exact HB.out | apply below_alloc | apply pw_below_drewN | apply below_drew1 | refine below_set ?_ GE206.out) | exact HB.out)⟩⟩)
     case rest =>
      clear HC6
      (try clear c1); (try clear c2); (try clear p2); (try clear c5); (try clear c5b0); (try clear c5b1); (try clear c9); (try clear c9b0); (try clear c11); (try clear c11b0); (try clear c13); (try clear c13b0); (try clear c15); (try clear c15b0); (try clear c17); (try clear c17b0); (try clear hczza1); (try clear hczza2); (try clear hczza3); (try clear hczza4); (try clear hczza5); (try clear hczza6); (try clear hczza7); (try clear hczza8); (try clear hczza9); (try clear hczza10); (try clear hczza11); (try clear hczza12); (try clear hfzza1); (try clear hfzza2); (try clear hfzza3); (try clear hfzza4); (try clear hfzza5); (try clear hfzza6); (try clear hfzza7); (try clear hfzza8); (try clear hfzza9); (try clear hfzza10); (try clear hfzza11); (try clear hfzza12)
      obtain ⟨kq, x43_5, rfl, HA, HJ5, BK206, HB⟩ := hcut
      cases kq with
      | zero => exact absurd HA.out (by simp [tube_Shift.j0])
      | succ kj5 =>
       have H := HA.out
       clear HA
       simp only [tube_Shift.j0] at H
       by_cases c20 : x43_5 = true
       · subst c20
         have H1 : (some (([] : List (S30)), 4)) = some (r1, r2) := by rw [if_pos rfl] at H; exact H
         clear H
         have H := H1
         clear H1
         simp only [Option.some.injEq, Prod.mk.injEq] at H
         obtain ⟨rfl, rfl⟩ := H
         go_wp2
         go_ret2
         exact ⟨_, by first | rfl | (simp [errW_none, errW_some] <;> rfl) | (simp [*, errW_none, errW_some] <;> rfl), by first | exact Kd.R_nil _ _ _ _ _ | exact Kd.N_nil _ _ _ _ _ | exact Kd.V_nil _ _ _ _ _ | exact Kd.Q_nil _ _ _ _ _ | exact Kd.S_nil _ _ _ _ _, by repeat (first | (with_reducible first | exact HB.out | apply below_alloc | apply pw_below_drewN | apply below_drew1 | refine below_set ?_ GE206.out) | exact HB.out)⟩
       · replace c20 := Bool.eq_false_iff.mpr c20
         subst c20
         have H1 : (tube_Shift.l0 kj5 a2 ([] : List (S30)) l0 (l0.length : Int) 0 a1_0 a1_1) = some (r1, r2) := by rw [if_neg (show ¬ (false = true) by decide)] at H; exact H
         clear H
         have H := H1
         clear H1
         have H' := Aside0.mk H
         clear H
         go_wp2
         go_loopg [9, 46] kj5 (fun kq v9 v46 w' => ∃ (x9_2 : List (S30)) (x46_2 : Int), v46 = .int .i64 x46_2 ∧ Aside0 (tube_Shift.l0 kq a2 x9_2 l0 (l0.length : Int) x46_2 a1_0 a1_1 = some (r1, r2)) ∧ Aside0 (kq ≤ kj5) ∧ Aside0 (Kd.R k30 30 w' w.heap.size (fun _ => True) v9 x9_2) ∧ Aside0 (w'.heap[gb206]? = some (.cells #[.int .i64 a1_0, .int .i64 a1_1] 26 (0, 0))) ∧ Aside0 (Below w.heap.size w w'))
         case atStart => exact ⟨(([] : List (S30))), (0), (by first | rfl | (simp; done) | (simp [*]; done)), H', ⟨Nat.le_refl _⟩, ⟨by first | exact Kd.R_nil _ _ _ _ _ | exact Kd.N_nil _ _ _ _ _ | exact Kd.V_nil _ _ _ _ _ | exact Kd.Q_nil _ _ _ _ _ | exact Kd.S_nil _ _ _ _ _⟩, ⟨by (with_reducible repeat (first | refine blk_drewN ?_ _ | refine blk_drew ?_ | refine blk_alloc ?_ _)); exact BK206.out⟩, ⟨by repeat (first | (with_reducible first | exact HB.out | apply below_alloc | apply pw_below_drewN | apply below_drew1 | refine below_set ?_ GE206.out) | exact HB.out)⟩⟩
         case round =>
          clear H'
          (try clear c1); (try clear c2); (try clear p2); (try clear c5); (try clear c5b0); (try clear c5b1); (try clear c9); (try clear c9b0); (try clear c11); (try clear c11b0); (try clear c13); (try clear c13b0); (try clear c15); (try clear c15b0); (try clear c17); (try clear c17b0); (try clear c20); (try clear hczzc1); (try clear hczzc2); (try clear hczzc3); (try clear hczzc4); (try clear hczzc5); (try clear hczzc6); (try clear hczzc7); (try clear hczzc8); (try clear hczzc9); (try clear hczzc10); (try clear hczzc11); (try clear hczzc12); (try clear hfzzc1); (try clear hfzzc2); (try clear hfzzc3); (try clear hfzzc4); (try clear hfzzc5); (try clear hfzzc6); (try clear hfzzc7); (try clear hfzzc8); (try clear hfzzc9); (try clear hfzzc10); (try clear hfzzc11)
          (try clear hfzzc12); (try clear p2)
          obtain ⟨x9_2, x46_2, rfl, HA, HK2, HO_9, BK206, HB⟩ := hrel
          cases gk with
          | zero => exact absurd HA.out (by simp [tube_Shift.l0])
          | succ k2 =>
           have H := HA.out
           clear HA
           simp only [tube_Shift.l0] at H
           refine Or.elim (Classical.em (x46_2 < (l0.length : Int))) (fun c21 => ?p10_) (fun c21 => ?n10_)
           case' p10_ =>
            rw [if_pos c21] at H
            have c21b0 : decide (x46_2 < (l0.length : Int)) = true := decide_eq_true c21
            clear c21
            refine Or.elim (Classical.em (0 ≤ x46_2)) (fun c22 => ?p11_) (fun c22 => ?n11_)
            case' p11_ =>
             rw [if_pos c22] at H
             have c22b0 : decide (0 ≤ x46_2) = true := decide_eq_true c22
             clear c22
             refine Or.elim (Classical.em (x46_2 < (l0.length : Int))) (fun c23 => ?p12_) (fun c23 => ?n12_)
             case' p12_ =>
              rw [if_pos c23] at H
              have c23b0 : decide (x46_2 < (l0.length : Int)) = true := decide_eq_true c23
              clear c23
              replace H := Option.bind_eq_some_iff.mp H
              obtain ⟨⟨t210, t211⟩, A240, H⟩ := H
              replace H : (if x9_2.length < 2932031007402 then (tube_Shift.l0 k2 a2 (x9_2 ++ [(⟨(⟨wrap64 (((rd_T30 l0 x46_2).f0.f0) + a2), (⟨t210, t211⟩ : S26), (rd_T30 l0 x46_2).f0.f2⟩ : S28), (rd_T30 l0 x46_2).f1, (rd_T30 l0 x46_2).f2⟩ : S30)]) l0 (l0.length : Int) (wrap64 (x46_2 + 1)) a1_0 a1_1) else (none)) = some (r1, r2) := H
              have A24 := Aside0.mk A240
              clear A240
              refine Or.elim (Classical.em (x9_2.length < 2932031007402)) (fun c25 => ?p13_) (fun c25 => ?n13_)
              case' p13_ =>
               rw [if_pos c25] at H
               have LMc25 := Aside0.mk c25
               clear c25
               obtain ⟨y212, hy212⟩ : ∃ y_ : List (S30), y_ = (x9_2 ++ [(⟨(⟨wrap64 (((rd_T30 l0 x46_2).f0.f0) + a2), (⟨t210, t211⟩ : S26), (rd_T30 l0 x46_2).f0.f2⟩ : S28), (rd_T30 l0 x46_2).f1, (rd_T30 l0 x46_2).f2⟩ : S30)]) := ⟨_, rfl⟩
               replace H : (tube_Shift.l0 k2 a2 y212 l0 (l0.length : Int) (wrap64 (x46_2 + 1)) a1_0 a1_1) = some (r1, r2) := by first | (rw [hy212]; with_reducible exact H) | (have H2_ := (Option.bind_some _ _).symm.trans H; rw [hy212]; with_reducible exact H2_) | (have H2_ := (Option.bind_some _ _).symm.trans H; with_reducible exact H2_) | with_reducible exact H | (rw [hy212]; exact H) | exact H
               have Ny212 := Aside0.mk hy212
               clear hy212
               have hm9_0 := Aside0.mk trivial
              case' n13_ =>
               rw [if_neg c25] at H
               exact absurd H (by simp)
             case' n12_ =>
              rw [if_neg c23] at H
              exact absurd H (by simp)
            case' n11_ =>
             rw [if_neg c22] at H
             exact absurd H (by simp)
           case' n10_ =>
            rw [if_neg c21] at H
            have c21b0 : decide (x46_2 < (l0.length : Int)) = false := decide_eq_false c21
            clear c21
            replace H := Option.bind_eq_some_iff.mp H
            obtain ⟨t215, A330, H⟩ := H
            replace H : (if t215 = 0 then (some (x9_2, 0)) else (some (([] : List (S30)), t215))) = some (r1, r2) := H
            have A33 := Aside0.mk A330
            clear A330
            refine Or.elim (Classical.em (t215 = 0)) (fun c34 => ?p14_) (fun c34 => ?n14_)
            case' p14_ =>
             rw [if_pos c34] at H
             have c34b0 : (t215 == 0) = true := beq_iff_eq.mpr c34
             have c34b1 : (t215 != 0) = false := bne_eq_false_iff_eq.mpr c34
             clear c34
             simp only [Option.some.injEq, Prod.mk.injEq] at H
             obtain ⟨rfl, rfl⟩ := H
             obtain ⟨Aozc1, cozc1, eozc1⟩ := Kd.R_slice HO_9.out
             subst eozc1
             have hm9_1 := Aside0.mk trivial
            case' n14_ =>
             rw [if_neg c34] at H
             have c34b0 : (t215 == 0) = false := beq_eq_false_iff_ne.mpr c34
             have c34b1 : (t215 != 0) = true := bne_iff_ne.mpr c34
             simp only [Option.some.injEq, Prod.mk.injEq] at H
             obtain ⟨rfl, rfl⟩ := H
             obtain ⟨Aozc2, cozc2, eozc2⟩ := Kd.R_slice HO_9.out
             subst eozc2
             have hm9_2 := Aside0.mk trivial
           all_goals
            first
             | clear hm9_0
               have H' := Aside0.mk H
               clear H
               have p208 : 0 ≤ (x46_2 : Int) := of_decide_eq_true (by first | (with_reducible assumption) | assumption)
               have q208 : x46_2 < (l0.length : Int) := of_decide_eq_true (by first | (with_reducible assumption) | assumption)
               obtain ⟨ad208, e208, hx208_0, hx208_1, hx208_2, hx208_3, hx208_4, hx208_5⟩ := at_T30 HR0.out x46_2 p208 q208
               cases e208
               replace hx208_0 := (HB.out.cell (World.block_lt_of_cell? w _ hx208_0)).trans hx208_0
               replace hx208_1 := (HB.out.cell (World.block_lt_of_cell? w _ hx208_1)).trans hx208_1
               replace hx208_2 := (HB.out.cell (World.block_lt_of_cell? w _ hx208_2)).trans hx208_2
               replace hx208_3 := (HB.out.cell (World.block_lt_of_cell? w _ hx208_3)).trans hx208_3
               replace hx208_4 := (HB.out.cell (World.block_lt_of_cell? w _ hx208_4)).trans hx208_4
               replace hx208_5 := (HB.out.cell (World.block_lt_of_cell? w _ hx208_5)).trans hx208_5
               replace p208 := eq_true p208
               replace q208 := eq_true q208
               go_wp2_with (first | ((with_reducible refine gate_dst (N := 11) rfl ?_); refine box_event ?hg (N := 11) ?hd (cs := #[.int .i64 0, .int .i64 0, .int .i64 0, .int .i64 0, .int .i64 0, .int .i64 0]) (t := 30) ?hr ?_; (case hd => rfl); (case hg => rfl); (case hr => first | (go_simp; done) | (go_simp; rfl)); intro gb209 hg wx1b201 hbox hb; have n0_ := Aside0.mk (Kd.R_below (Kd.R_elderB (by (with_reducible repeat (first | apply Kd.R_alloc | apply Kd.R_drewN | apply Kd.R_drew)); exact HO_9.out) gb209 (Nat.le_of_eq hg.symm)) hb); have n1_ := Aside0.mk (blk_below (g := gb206) (o := .cells #[.int .i64 a1_0, .int .i64 a1_1] 26 (0, 0)) (by (with_reducible repeat (first | refine blk_drewN ?_ _ | refine blk_drew ?_ | refine blk_alloc ?_ _)); exact BK206.out) hb); have n2_ := Aside0.mk (below_step (by repeat (first | (with_reducible first | exact HB.out | apply below_alloc | apply pw_below_drewN | apply below_drew1 | refine below_set ?_ GE206.out) | exact HB.out)) hb); have n3_ := Aside0.mk (hbox); have n4_ := Aside0.mk ((by rw [hg]; exact (below_size (by repeat (first | (with_reducible first | exact HB.out | apply below_alloc | apply pw_below_drewN | apply below_drew1 | refine below_set ?_ GE206.out) | exact HB.out))) : w.heap.size ≤ gb209)); have n5_ := Aside0.mk ((by rw [hg]; exact (below_size (by repeat (first | (with_reducible first | exact HB.out | apply below_alloc | apply pw_below_drewN | apply below_drew1 | refine below_set ?_ GE206.out) | exact HB.out))) : w.heap.size ≤ gb209)); have n6_ := Aside0.mk ((by rw [hg]; exact Nat.ne_of_lt (blk_lt (g := gb206) (o := .cells #[.int .i64 a1_0, .int .i64 a1_1] 26 (0, 0)) (by (with_reducible repeat (first | refine blk_drewN ?_ _ | refine blk_drew ?_ | refine blk_alloc ?_ _)); exact BK206.out)) : gb206 ≠ gb209)); have n7_ := Aside0.mk ((by rw [hg]; exact Nat.ne_of_gt (blk_lt (g := gb206) (o := .cells #[.int .i64 a1_0, .int .i64 a1_1] 26 (0, 0)) (by (with_reducible repeat (first | refine blk_drewN ?_ _ | refine blk_drew ?_ | refine blk_alloc ?_ _)); exact BK206.out)) : gb209 ≠ gb206)); clear HO_9; clear BK206; clear HB; have HO_9 := n0_; have BK206 := n1_; have HB := n2_; have BK209 := n3_; have GW209 := n4_; have GE209 := n5_; have NB206_209 := n6_; have NB209_206 := n7_; clear n0_ n1_ n2_ n3_ n4_ n5_ n6_ n7_; clear hb hbox hg; have hnbx1b201 := NB209_206.out; have hncx1b201 := NB206_209.out; have hczx1b201 : wx1b201.cell? ⟨gb209, 0, none⟩ = some (.int .i64 0) := (blk_cell BK209.out 0).trans rfl; have hczx1b202 : wx1b201.cell? ⟨gb209, 1, none⟩ = some (.int .i64 0) := (blk_cell BK209.out 1).trans rfl; have hczx1b203 : wx1b201.cell? ⟨gb209, 2, none⟩ = some (.int .i64 0) := (blk_cell BK209.out 2).trans rfl; have hczx1b204 : wx1b201.cell? ⟨gb209, 3, none⟩ = some (.int .i64 0) := (blk_cell BK209.out 3).trans rfl; have hczx1b205 : wx1b201.cell? ⟨gb209, 4, none⟩ = some (.int .i64 0) := (blk_cell BK209.out 4).trans rfl; have hczx1b206 : wx1b201.cell? ⟨gb209, 5, none⟩ = some (.int .i64 0) := (blk_cell BK209.out 5).trans rfl; have hfzx1b201 := blk_frozen BK209.out 0; have hfzx1b202 := blk_frozen BK209.out 1; have hfzx1b203 := blk_frozen BK209.out 2; have hfzx1b204 := blk_frozen BK209.out 3; have hfzx1b205 := blk_frozen BK209.out 4; have hfzx1b206 := blk_frozen BK209.out 5; have hczx1b207 : wx1b201.cell? ⟨gb206, 0, none⟩ = some (.int .i64 a1_0) := (blk_cell BK206.out 0).trans rfl; have hczx1b208 : wx1b201.cell? ⟨gb206, 1, none⟩ = some (.int .i64 a1_1) := (blk_cell BK206.out 1).trans rfl; have hfzx1b207 := blk_frozen BK206.out 0; have hfzx1b208 := blk_frozen BK206.out 1) | ((with_reducible refine gate_callee (f := 24) rfl ?_); refine goesL_ (some 54) rfl rfl Try.func24 (by kernel_rfl) rfl #[.agg #[.int .i64 ((rd_T30 l0 x46_2).f0.f1.f0), .int .i64 ((rd_T30 l0 x46_2).f0.f1.f1)], .agg #[.int .i64 a1_0, .int .i64 a1_1]] rfl (by (try simp only [List.map_toArray, List.map_cons, List.map_nil]); first | done | rfl | (simp only [List.length_drop, List.length_take]; rfl)) ?_; (with_reducible refine (plane_Add.calls ((rd_T30 l0 x46_2).f0.f1.f0) ((rd_T30 l0 x46_2).f0.f1.f1) a1_0 a1_1 t210 t211 _ A24.out).mono ?_); rintro e wx55e11 ⟨rfl, hb⟩; refine ⟨_, rfl, ?_⟩; have n0_ := Aside0.mk (Kd.R_below (by (with_reducible repeat (first | apply Kd.R_alloc | apply Kd.R_drewN | apply Kd.R_drew)); exact (Kd.R_mono (Kd.R_far (p := ⟨gb209, 5, none⟩) (Kd.R_far (p := ⟨gb209, 4, none⟩) (Kd.R_far (p := ⟨gb209, 3, none⟩) (Kd.R_far (p := ⟨gb209, 2, none⟩) (Kd.R_far (p := ⟨gb209, 1, none⟩) (Kd.R_far (p := ⟨gb209, 0, none⟩) (Kd.R_mono HO_9.out (fun k_ hk => (⟨hk, hk.2⟩ : _ ∧ k_ ≠ gb209))) (fun _ hk => hk.2) (.int .i64 ((rd_T30 l0 x46_2).f0.f0))) (fun _ hk => hk.2) (.int .i64 ((rd_T30 l0 x46_2).f0.f1.f0))) (fun _ hk => hk.2) (.int .i64 ((rd_T30 l0 x46_2).f0.f1.f1))) (fun _ hk => hk.2) (.int .i64 ((rd_T30 l0 x46_2).f0.f2))) (fun _ hk => hk.2) (.int .i64 ((rd_T30 l0 x46_2).f1))) (fun _ hk => hk.2) (.int .i64 ((rd_T30 l0 x46_2).f2))) (fun _ h_ => h_.1))) hb); have n1_ := Aside0.mk (blk_below (g := gb206) (o := .cells #[.int .i64 a1_0, .int .i64 a1_1] 26 (0, 0)) (by (with_reducible repeat (first | refine blk_drewN ?_ _ | refine blk_drew ?_ | refine blk_alloc ?_ _)); refine blk_far ?_ NB206_209.out _; (with_reducible repeat (first | refine blk_drewN ?_ _ | refine blk_drew ?_ | refine blk_alloc ?_ _)); refine blk_far ?_ NB206_209.out _; (with_reducible repeat (first | refine blk_drewN ?_ _ | refine blk_drew ?_ | refine blk_alloc ?_ _)); refine blk_far ?_ NB206_209.out _; (with_reducible repeat (first | refine blk_drewN ?_ _ | refine blk_drew ?_ | refine blk_alloc ?_ _)); refine blk_far ?_ NB206_209.out _; (with_reducible repeat (first | refine blk_drewN ?_ _ | refine blk_drew ?_ | refine blk_alloc ?_ _)); refine blk_far ?_ NB206_209.out _; (with_reducible repeat (first | refine blk_drewN ?_ _ | refine blk_drew ?_ | refine blk_alloc ?_ _)); refine blk_far ?_ NB206_209.out _; (with_reducible repeat (first | refine blk_drewN ?_ _ | refine blk_drew ?_ | refine blk_alloc ?_ _)); exact BK206.out) hb); have n2_ := Aside0.mk (blk_below (g := gb209) (o := .cells #[.int .i64 ((rd_T30 l0 x46_2).f0.f0), .int .i64 ((rd_T30 l0 x46_2).f0.f1.f0), .int .i64 ((rd_T30 l0 x46_2).f0.f1.f1), .int .i64 ((rd_T30 l0 x46_2).f0.f2), .int .i64 ((rd_T30 l0 x46_2).f1), .int .i64 ((rd_T30 l0 x46_2).f2)] 30 (0, 0)) (by (with_reducible repeat (first | refine blk_drewN ?_ _ | refine blk_drew ?_ | refine blk_alloc ?_ _)); refine blk_put (cs := #[.int .i64 ((rd_T30 l0 x46_2).f0.f0), .int .i64 ((rd_T30 l0 x46_2).f0.f1.f0), .int .i64 ((rd_T30 l0 x46_2).f0.f1.f1), .int .i64 ((rd_T30 l0 x46_2).f0.f2), .int .i64 ((rd_T30 l0 x46_2).f1), .int .i64 0]) ?_ 5 _ rfl; (with_reducible repeat (first | refine blk_drewN ?_ _ | refine blk_drew ?_ | refine blk_alloc ?_ _)); refine blk_put (cs := #[.int .i64 ((rd_T30 l0 x46_2).f0.f0), .int .i64 ((rd_T30 l0 x46_2).f0.f1.f0), .int .i64 ((rd_T30 l0 x46_2).f0.f1.f1), .int .i64 ((rd_T30 l0 x46_2).f0.f2), .int .i64 0, .int .i64 0]) ?_ 4 _ rfl; (with_reducible repeat (first | refine blk_drewN ?_ _ | refine blk_drew ?_ | refine blk_alloc ?_ _)); refine blk_put (cs := #[.int .i64 ((rd_T30 l0 x46_2).f0.f0), .int .i64 ((rd_T30 l0 x46_2).f0.f1.f0), .int .i64 ((rd_T30 l0 x46_2).f0.f1.f1), .int .i64 0, .int .i64 0, .int .i64 0]) ?_ 3 _ rfl; (with_reducible repeat (first | refine blk_drewN ?_ _ | refine blk_drew ?_ | refine blk_alloc ?_ _)); refine blk_put (cs := #[.int .i64 ((rd_T30 l0 x46_2).f0.f0), .int .i64 ((rd_T30 l0 x46_2).f0.f1.f0), .int .i64 0, .int .i64 0, .int .i64 0, .int .i64 0]) ?_ 2 _ rfl; (with_reducible repeat (first | refine blk_drewN ?_ _ | refine blk_drew ?_ | refine blk_alloc ?_ _)); refine blk_put (cs := #[.int .i64 ((rd_T30 l0 x46_2).f0.f0), .int .i64 0, .int .i64 0, .int .i64 0, .int .i64 0, .int .i64 0]) ?_ 1 _ rfl; (with_reducible repeat (first | refine blk_drewN ?_ _ | refine blk_drew ?_ | refine blk_alloc ?_ _)); refine blk_put (cs := #[.int .i64 0, .int .i64 0, .int .i64 0, .int .i64 0, .int .i64 0, .int .i64 0]) ?_ 0 _ rfl; (with_reducible repeat (first | refine blk_drewN ?_ _ | refine blk_drew ?_ | refine blk_alloc ?_ _)); exact BK209.out) hb); have n3_ := Aside0.mk (below_step (by repeat (first | (with_reducible first | exact HB.out | apply below_alloc | apply pw_below_drewN | apply below_drew1 | refine below_set ?_ GE206.out | refine below_set ?_ GE209.out) | exact HB.out)) hb); clear HO_9; clear BK206; clear BK209; clear HB; have HO_9 := n0_; have BK206 := n1_; have BK209 := n2_; have HB := n3_; clear n0_ n1_ n2_ n3_; (try clear hb); (try clear hb2); (try clear hk); (try clear hi); have hczx55e11 : wx55e11.cell? ⟨gb209, 0, none⟩ = some (.int .i64 ((rd_T30 l0 x46_2).f0.f0)) := (blk_cell BK209.out 0).trans rfl; have hczx55e12 : wx55e11.cell? ⟨gb209, 1, none⟩ = some (.int .i64 ((rd_T30 l0 x46_2).f0.f1.f0)) := (blk_cell BK209.out 1).trans rfl; have hczx55e13 : wx55e11.cell? ⟨gb209, 2, none⟩ = some (.int .i64 ((rd_T30 l0 x46_2).f0.f1.f1)) := (blk_cell BK209.out 2).trans rfl; have hczx55e14 : wx55e11.cell? ⟨gb209, 3, none⟩ = some (.int .i64 ((rd_T30 l0 x46_2).f0.f2)) := (blk_cell BK209.out 3).trans rfl; have hczx55e15 : wx55e11.cell? ⟨gb209, 4, none⟩ = some (.int .i64 ((rd_T30 l0 x46_2).f1)) := (blk_cell BK209.out 4).trans rfl; have hczx55e16 : wx55e11.cell? ⟨gb209, 5, none⟩ = some (.int .i64 ((rd_T30 l0 x46_2).f2)) := (blk_cell BK209.out 5).trans rfl; have hfzx55e11 := blk_frozen BK209.out 0; have hfzx55e12 := blk_frozen BK209.out 1; have hfzx55e13 := blk_frozen BK209.out 2; have hfzx55e14 := blk_frozen BK209.out 3; have hfzx55e15 := blk_frozen BK209.out 4; have hfzx55e16 := blk_frozen BK209.out 5) | ((with_reducible refine gate_builtin (b := .append) (xs := #[.tmp 64, .tmp 66]) rfl ?_); at_builtin; refine Kd.R_append k30 (w0 := w) w.heap.size rfl (.tmp 64) (.tmp 66) 23 30 (.agg #[(.int .i64 0), (.int .i64 0), (.int .i64 0), (.int .i64 0), (.int .i64 0), (.int .i64 0)]) 48 rfl Try.underlying23 info30 rfl (by decide) (by omega) u9 x9_2 (⟨(⟨wrap64 (((rd_T30 l0 x46_2).f0.f0) + a2), (⟨t210, t211⟩ : S26), (rd_T30 l0 x46_2).f0.f2⟩ : S28), (rd_T30 l0 x46_2).f1, (rd_T30 l0 x46_2).f2⟩ : S30) [.int .i64 (wrap64 (((rd_T30 l0 x46_2).f0.f0) + a2)), .int .i64 t210, .int .i64 t211, .int .i64 ((rd_T30 l0 x46_2).f0.f2), .int .i64 ((rd_T30 l0 x46_2).f1), .int .i64 ((rd_T30 l0 x46_2).f2)] (fun k_ => k_ ≠ gb209) (fun _ => False) rfl (by first | (go_simp; done) | (go_simp; rfl)) ?aP (fun _ hk => hk.elim) ?aF ?aO ?aB ?aS ?aL ?_; (case aP => exact k30_mkM _ _ _ (⟨(⟨wrap64 (((rd_T30 l0 x46_2).f0.f0) + a2), (⟨t210, t211⟩ : S26), (rd_T30 l0 x46_2).f0.f2⟩ : S28), (rd_T30 l0 x46_2).f1, (rd_T30 l0 x46_2).f2⟩ : S30)); (case aB => exact (by repeat (first | (with_reducible first | exact HB.out | apply below_alloc | apply pw_below_drewN | apply below_drew1 | refine below_set ?_ GE206.out | refine below_set ?_ GE209.out) | exact HB.out))); (case aF => exact (fun k_ hk => Kd.freshB (g := gb209) (o := .cells #[.int .i64 (wrap64 (((rd_T30 l0 x46_2).f0.f0) + a2)), .int .i64 t210, .int .i64 t211, .int .i64 ((rd_T30 l0 x46_2).f0.f2), .int .i64 ((rd_T30 l0 x46_2).f1), .int .i64 ((rd_T30 l0 x46_2).f2)] 30 (0, 0)) (by (with_reducible repeat (first | refine blk_drewN ?_ _ | refine blk_drew ?_ | refine blk_alloc ?_ _)); refine blk_put (cs := #[.int .i64 ((rd_T30 l0 x46_2).f0.f0), .int .i64 t210, .int .i64 t211, .int .i64 ((rd_T30 l0 x46_2).f0.f2), .int .i64 ((rd_T30 l0 x46_2).f1), .int .i64 ((rd_T30 l0 x46_2).f2)]) ?_ 0 _ rfl; (with_reducible repeat (first | refine blk_drewN ?_ _ | refine blk_drew ?_ | refine blk_alloc ?_ _)); refine blk_put (cs := #[.int .i64 ((rd_T30 l0 x46_2).f0.f0), .int .i64 t210, .int .i64 ((rd_T30 l0 x46_2).f0.f1.f1), .int .i64 ((rd_T30 l0 x46_2).f0.f2), .int .i64 ((rd_T30 l0 x46_2).f1), .int .i64 ((rd_T30 l0 x46_2).f2)]) ?_ 2 _ rfl; (with_reducible repeat (first | refine blk_drewN ?_ _ | refine blk_drew ?_ | refine blk_alloc ?_ _)); refine blk_put (cs := #[.int .i64 ((rd_T30 l0 x46_2).f0.f0), .int .i64 ((rd_T30 l0 x46_2).f0.f1.f0), .int .i64 ((rd_T30 l0 x46_2).f0.f1.f1), .int .i64 ((rd_T30 l0 x46_2).f0.f2), .int .i64 ((rd_T30 l0 x46_2).f1), .int .i64 ((rd_T30 l0 x46_2).f2)]) ?_ 1 _ rfl; (with_reducible repeat (first | refine blk_drewN ?_ _ | refine blk_drew ?_ | refine blk_alloc ?_ _)); exact BK209.out) k_ hk)); (case aO => exact (by (with_reducible repeat (first | apply Kd.R_alloc | apply Kd.R_drewN | apply Kd.R_drew)); exact Kd.R_mono (Kd.R_far (p := ⟨gb209, 0, none⟩) (Kd.R_far (p := ⟨gb209, 2, none⟩) (Kd.R_far (p := ⟨gb209, 1, none⟩) (Kd.R_mono HO_9.out (fun k_ hk => (⟨hk, hk.2⟩ : _ ∧ k_ ≠ gb209))) (fun _ hk => hk.2) (.int .i64 t210)) (fun _ hk => hk.2) (.int .i64 t211)) (fun _ hk => hk.2) (.int .i64 (wrap64 (((rd_T30 l0 x46_2).f0.f0) + a2)))) (fun _ hk => hk.1.2))); (case aS => exact (below_size (by repeat (first | (with_reducible first | exact HB.out | apply below_alloc | apply pw_below_drewN | apply below_drew1 | refine below_set ?_ GE206.out | refine below_set ?_ GE209.out) | exact HB.out)))); (case aL => have := LMc25.out; omega); intro v213 wxadcd1 ho hb hg hat; rw [← Ny212.out] at ho; have n0_ := Aside0.mk (blk_grown (g := gb206) (o := .cells #[.int .i64 a1_0, .int .i64 a1_1] 26 (0, 0)) (by (with_reducible repeat (first | refine blk_drewN ?_ _ | refine blk_drew ?_ | refine blk_alloc ?_ _)); refine blk_far ?_ NB206_209.out _; (with_reducible repeat (first | refine blk_drewN ?_ _ | refine blk_drew ?_ | refine blk_alloc ?_ _)); refine blk_far ?_ NB206_209.out _; (with_reducible repeat (first | refine blk_drewN ?_ _ | refine blk_drew ?_ | refine blk_alloc ?_ _)); refine blk_far ?_ NB206_209.out _; (with_reducible repeat (first | refine blk_drewN ?_ _ | refine blk_drew ?_ | refine blk_alloc ?_ _)); exact BK206.out) hg (Kd.R_ne HO_9.out BK206.out (by decide))); have n1_ := Aside0.mk (blk_grown (g := gb209) (o := .cells #[.int .i64 (wrap64 (((rd_T30 l0 x46_2).f0.f0) + a2)), .int .i64 t210, .int .i64 t211, .int .i64 ((rd_T30 l0 x46_2).f0.f2), .int .i64 ((rd_T30 l0 x46_2).f1), .int .i64 ((rd_T30 l0 x46_2).f2)] 30 (0, 0)) (by (with_reducible repeat (first | refine blk_drewN ?_ _ | refine blk_drew ?_ | refine blk_alloc ?_ _)); refine blk_put (cs := #[.int .i64 ((rd_T30 l0 x46_2).f0.f0), .int .i64 t210, .int .i64 t211, .int .i64 ((rd_T30 l0 x46_2).f0.f2), .int .i64 ((rd_T30 l0 x46_2).f1), .int .i64 ((rd_T30 l0 x46_2).f2)]) ?_ 0 _ rfl; (with_reducible repeat (first | refine blk_drewN ?_ _ | refine blk_drew ?_ | refine blk_alloc ?_ _)); refine blk_put (cs := #[.int .i64 ((rd_T30 l0 x46_2).f0.f0), .int .i64 t210, .int .i64 ((rd_T30 l0 x46_2).f0.f1.f1), .int .i64 ((rd_T30 l0 x46_2).f0.f2), .int .i64 ((rd_T30 l0 x46_2).f1), .int .i64 ((rd_T30 l0 x46_2).f2)]) ?_ 2 _ rfl; (with_reducible repeat (first | refine blk_drewN ?_ _ | refine blk_drew ?_ | refine blk_alloc ?_ _)); refine blk_put (cs := #[.int .i64 ((rd_T30 l0 x46_2).f0.f0), .int .i64 ((rd_T30 l0 x46_2).f0.f1.f0), .int .i64 ((rd_T30 l0 x46_2).f0.f1.f1), .int .i64 ((rd_T30 l0 x46_2).f0.f2), .int .i64 ((rd_T30 l0 x46_2).f1), .int .i64 ((rd_T30 l0 x46_2).f2)]) ?_ 1 _ rfl; (with_reducible repeat (first | refine blk_drewN ?_ _ | refine blk_drew ?_ | refine blk_alloc ?_ _)); exact BK209.out) hg (Kd.R_away HO_9.out (fun _ hk => hk.2))); have n2_ := Aside0.mk (hb); have n3_ := Aside0.mk (ho); clear BK206; clear BK209; clear HB; clear HO_9; have BK206 := n0_; have BK209 := n1_; have HB := n2_; have HO214 := n3_; clear n0_ n1_ n2_ n3_; clear ho hb hg hat))
               go_roundg k2
               case measure => have := HJ5.out; have := HK2.out; omega
               case rel => exact ⟨(y212), (wrap64 (x46_2 + 1)), (by first | rfl | (simp; done) | (simp [*]; done)), H', ⟨by have := HJ5.out; have := HK2.out; omega⟩, ⟨by (with_reducible repeat (first | apply Kd.R_alloc | apply Kd.R_drewN | apply Kd.R_drew)); exact Kd.R_mono HO214.out (fun _ hk => trivial)⟩, ⟨by (with_reducible repeat (first | refine blk_drewN ?_ _ | refine blk_drew ?_ | refine blk_alloc ?_ _)); exact BK206.out⟩, ⟨by repeat (first | (with_reducible first | exact HB.out | apply below_alloc | apply pw_below_drewN | apply below_drew1 | refine below_set ?_ GE206.out | refine below_set ?_ GE209.out) | exact HB.out)⟩⟩
             | (first | (have _hm := hm9_1) | (have _hm := hm9_2))
               go_wp2_with (first | ((with_reducible refine gate_callee (f := 20) rfl ?_); refine goesL_ (some 70) rfl rfl Try.func20 (by kernel_rfl) rfl #[.slice Aozc1 x9_2.length cozc1] rfl (by (try simp only [List.map_toArray, List.map_cons, List.map_nil]); first | done | rfl | (simp only [List.length_drop, List.length_take]; rfl)) ?_; (with_reducible refine (tube_Check.calls k2 _ _ x9_2 t215 _ ?side1 ?side2 A33.out).mono ?_); (case side1 => repeat (first | exact (Kd.R_reads' HO_9.out).2.2 | (with_reducible refine Kd.C_alloc ?_ _) | (with_reducible refine Kd.C_drewN ?_ _) | (with_reducible refine Kd.C_drew ?_))); (case side2 => exact (Kd.R_reads' HO_9.out).2.1); rintro e wx16541 ⟨rfl, hb⟩; refine ⟨_, rfl, ?_⟩; have n0_ := Aside0.mk (Kd.R_below (by (with_reducible repeat (first | apply Kd.R_alloc | apply Kd.R_drewN | apply Kd.R_drew)); exact HO_9.out) hb); have n1_ := Aside0.mk (blk_below (g := gb206) (o := .cells #[.int .i64 a1_0, .int .i64 a1_1] 26 (0, 0)) (by (with_reducible repeat (first | refine blk_drewN ?_ _ | refine blk_drew ?_ | refine blk_alloc ?_ _)); exact BK206.out) hb); have n2_ := Aside0.mk (below_step (by repeat (first | (with_reducible first | exact HB.out | apply below_alloc | apply pw_below_drewN | apply below_drew1 | refine below_set ?_ GE206.out) | exact HB.out)) hb); clear HO_9; clear BK206; clear HB; have HO_9 := n0_; have BK206 := n1_; have HB := n2_; clear n0_ n1_ n2_; (try clear hb); (try clear hb2); (try clear hk); (try clear hi)) | ((with_reducible refine gate_callee (f := 20) rfl ?_); refine goesL_ (some 70) rfl rfl Try.func20 (by kernel_rfl) rfl #[.slice Aozc2 x9_2.length cozc2] rfl (by (try simp only [List.map_toArray, List.map_cons, List.map_nil]); first | done | rfl | (simp only [List.length_drop, List.length_take]; rfl)) ?_; (with_reducible refine (tube_Check.calls k2 _ _ x9_2 t215 _ ?side1 ?side2 A33.out).mono ?_); (case side1 => repeat (first | exact (Kd.R_reads' HO_9.out).2.2 | (with_reducible refine Kd.C_alloc ?_ _) | (with_reducible refine Kd.C_drewN ?_ _) | (with_reducible refine Kd.C_drew ?_))); (case side2 => exact (Kd.R_reads' HO_9.out).2.1); rintro e wx673a1 ⟨rfl, hb⟩; refine ⟨_, rfl, ?_⟩; have n0_ := Aside0.mk (Kd.R_below (by (with_reducible repeat (first | apply Kd.R_alloc | apply Kd.R_drewN | apply Kd.R_drew)); exact HO_9.out) hb); have n1_ := Aside0.mk (blk_below (g := gb206) (o := .cells #[.int .i64 a1_0, .int .i64 a1_1] 26 (0, 0)) (by (with_reducible repeat (first | refine blk_drewN ?_ _ | refine blk_drew ?_ | refine blk_alloc ?_ _)); exact BK206.out) hb); have n2_ := Aside0.mk (below_step (by repeat (first | (with_reducible first | exact HB.out | apply below_alloc | apply pw_below_drewN | apply below_drew1 | refine below_set ?_ GE206.out) | exact HB.out)) hb); clear HO_9; clear BK206; clear HB; have HO_9 := n0_; have BK206 := n1_; have HB := n2_; clear n0_ n1_ n2_; (try clear hb); (try clear hb2); (try clear hk); (try clear hi)))
               go_ret2
               first
                | clear hm9_1
                  exact ⟨_, by first | rfl | (simp [errW_none, errW_some] <;> rfl) | (simp [*, errW_none, errW_some] <;> rfl), by (with_reducible repeat (first | apply Kd.R_alloc | apply Kd.R_drewN | apply Kd.R_drew)); exact HO_9.out, by repeat (first | (with_reducible first | exact HB.out | apply below_alloc | apply pw_below_drewN | apply below_drew1 | refine below_set ?_ GE206.out) | exact HB.out)⟩
                | clear hm9_2
                  exact ⟨_, by first | rfl | (simp [errW_none, errW_some] <;> rfl) | (simp [*, errW_none, errW_some] <;> rfl), by first | exact Kd.R_nil _ _ _ _ _ | exact Kd.N_nil _ _ _ _ _ | exact Kd.V_nil _ _ _ _ _ | exact Kd.Q_nil _ _ _ _ _ | exact Kd.S_nil _ _ _ _ _, by repeat (first | (with_reducible first | exact HB.out | apply below_alloc | apply pw_below_drewN | apply below_drew1 | refine below_set ?_ GE206.out) | exact HB.out)⟩
   | clear hm1_1
     go_wp2_with (first | ((with_reducible refine gate_dst (N := 4) rfl ?_); refine box_event ?hg (N := 4) ?hd (cs := #[.int .i64 a1_0, .int .i64 a1_1]) (t := 26) ?hr ?_; (case hd => rfl); (case hg => rfl); (case hr => first | (go_simp; done) | (go_simp; rfl)); intro gb206 hg wxfa171 hbox hb; have n0_ := Aside0.mk (below_step (by repeat (first | (with_reducible first | exact HB.out | apply below_alloc | apply pw_below_drewN | apply below_drew1) | exact HB.out)) hb); have n1_ := Aside0.mk (hbox); have n2_ := Aside0.mk ((by rw [hg]; exact (below_size (by repeat (first | (with_reducible first | exact HB.out | apply below_alloc | apply pw_below_drewN | apply below_drew1) | exact HB.out))) : w.heap.size ≤ gb206)); have n3_ := Aside0.mk ((by rw [hg]; exact (below_size (by repeat (first | (with_reducible first | exact HB.out | apply below_alloc | apply pw_below_drewN | apply below_drew1) | exact HB.out))) : w.heap.size ≤ gb206)); clear HB; have HB := n0_; have BK206 := n1_; have GW206 := n2_; have GE206 := n3_; clear n0_ n1_ n2_ n3_; clear hb hbox hg) | ((with_reducible refine gate_callee (f := 20) rfl ?_); refine goesL_ (some 14) rfl rfl Try.func20 (by kernel_rfl) rfl #[.slice A0 l0.length c0] rfl (by (try simp only [List.map_toArray, List.map_cons, List.map_nil]); first | done | rfl | (simp only [List.length_drop, List.length_take]; rfl)) ?_; (with_reducible refine (tube_Check.calls k _ _ l0 t207 _ ?side1 ?side2 A4.out).mono ?_); (case side1 => repeat (first | exact (Kd.C_below HR0.out HB.out) | (with_reducible refine Kd.C_alloc ?_ _) | (with_reducible refine Kd.C_drewN ?_ _) | (with_reducible refine Kd.C_drew ?_))); (case side2 => exact HC0.out); rintro e wxaa241 ⟨rfl, hb⟩; refine ⟨_, rfl, ?_⟩; have n0_ := Aside0.mk (blk_below (g := gb206) (o := .cells #[.int .i64 a1_0, .int .i64 a1_1] 26 (0, 0)) (by (with_reducible repeat (first | refine blk_drewN ?_ _ | refine blk_drew ?_ | refine blk_alloc ?_ _)); exact BK206.out) hb); have n1_ := Aside0.mk (below_step (by repeat (first | (with_reducible first | exact HB.out | apply below_alloc | apply pw_below_drewN | apply below_drew1 | refine below_set ?_ GE206.out) | exact HB.out)) hb); clear BK206; clear HB; have BK206 := n0_; have HB := n1_; clear n0_ n1_; (try clear hb); (try clear hb2); (try clear hk); (try clear hi)))
     go_ret2
     exact ⟨_, by first | rfl | (simp [errW_none, errW_some] <;> rfl) | (simp [*, errW_none, errW_some] <;> rfl), by first | exact Kd.R_nil _ _ _ _ _ | exact Kd.N_nil _ _ _ _ _ | exact Kd.V_nil _ _ _ _ _ | exact Kd.Q_nil _ _ _ _ _ | exact Kd.S_nil _ _ _ _ _, by repeat (first | (with_reducible first | exact HB.out | apply below_alloc | apply pw_below_drewN | apply below_drew1 | refine below_set ?_ GE206.out) | exact HB.out)⟩

/-! ### skywaykeep1_TubeShifts: function 6 -/
def skywaykeep1_TubeShifts.f (k : Nat) (l0 : List (S30)) (a1_0 : Int) (a1_1 : Int) (a2 : Int) (a3 : Int) : Option (Bool) := (skywaykeep1_tubeWorks.f k).bind fun t217 => (if t217 = true then ((tube_Shift.f k l0 a1_0 a1_1 a2).bind fun bt218 => (if bt218.2 = 0 then (if 0 < (l0.length : Int) then ((tube_At.f k l0 (wrap64 (((rd_T30 l0 0).f0.f0) + (Int.tmod (wrap64 ((Int.tmod a3 1000) + 1000)) 1000)))).bind fun bt223 => ((tube_At.f k bt218.1 (wrap64 ((wrap64 (((rd_T30 l0 0).f0.f0) + (Int.tmod (wrap64 ((Int.tmod a3 1000) + 1000)) 1000))) + a2))).bind fun bt231 => ((plane_Add.f bt223.2.1 bt223.2.2.1 a1_0 a1_1).bind fun bt239 => (if bt223.2.2.2.2.2.2 = bt231.2.2.2.2.2.2 then (if bt223.2.2.2.2.2.2 = 0 then (some (((wrap64 (bt223.1 + a2)) == bt231.1 && ((bt239.1 == bt231.2.1 && (bt239.2 == bt231.2.2.1)) && (bt223.2.2.2.1 == bt231.2.2.2.1))) && (bt223.2.2.2.2.1 == bt231.2.2.2.2.1 && (bt223.2.2.2.2.2.1 == bt231.2.2.2.2.2.1)))) else (some true)) else (some false))))) else (none)) else (some ((bt218.1.length : Int) == 0)))) else (some false))
theorem skywaykeep1_TubeShifts.mono : ∀ a0 a1 a2 a3 a4 k, LeO (skywaykeep1_TubeShifts.f k a0 a1 a2 a3 a4) (skywaykeep1_TubeShifts.f (k + 1) a0 a1 a2 a3 a4) := by
  intro a0 a1 a2 a3 a4 k
  unfold skywaykeep1_TubeShifts.f
  repeat' first
      | (with_reducible exact skywaykeep1_tubeWorks.mono _)
      | (with_reducible exact tube_At.mono _ _ _)
      | (with_reducible exact tube_Shift.mono _ _ _ _ _)
      | (with_reducible exact LeO.refl _)
      | (with_reducible exact LeO.none _)
      | (with_reducible refine LeO.ite ?_ ?_)
      | (with_reducible refine LeO.bind ?_ (fun _ => ?_))
      | exact skywaykeep1_tubeWorks.mono _
      | exact tube_At.mono _ _ _
      | exact tube_Shift.mono _ _ _ _ _
      | exact LeO.none _
      | refine LeO.ite ?_ ?_
      | refine LeO.bind ?_ (fun _ => ?_)
def skywaykeep1_TubeShifts.T9 : Bool × List (List Nat × List Nat) := (true, [([], []), ([0], [0]), ([1], [1]), ([], []), ([2, 3], [2, 3]), ([], []), ([5], [5]), ([6], [6]), ([], []), ([7, 8], [7, 8]), ([0, 1, 2, 3, 4, 5, 6, 7], []), ([10, 0, 1, 2, 3, 4, 5, 6, 7], [10]), ([11, 4, 4, 0, 1, 2, 3, 4, 5, 6, 7], [4, 11]), ([0, 1, 2, 3, 4, 5, 6, 7, 8, 9, 10, 11, 12], []), ([13, 0, 1, 2, 3, 4, 5, 6, 7, 8, 9, 10, 11, 12], [13]), ([14, 9, 12, 0, 1, 2, 3, 4, 5, 6, 7, 8, 9, 10, 11, 12], [9, 14])])
def skywaykeep1_TubeShifts.B9 : List Nat := [0, 1, 3, 0, 15, 0, 32, 96, 0, 480, 255, 1279, 3327, 8191, 16383, 32767]
theorem skywaykeep1_TubeShifts.tab9 : rtab .any (opsOf Try.f6 9) = skywaykeep1_TubeShifts.T9 := by kernel_rfl
theorem skywaykeep1_TubeShifts.bits9 : waitsOk skywaykeep1_TubeShifts.T9.2 skywaykeep1_TubeShifts.B9 = true := by kernel_rfl
set_option maxHeartbeats 8000000 in
set_option maxRecDepth 100000 in
theorem skywaykeep1_TubeShifts.calls (k : Nat) (A0 : Option Addr) (c0 : Nat) (l0 : List (S30)) (a1_0 : Int) (a1_1 : Int) (a2 : Int) (a3 : Int) (r : Bool) (w : World) (hr0 : Kd.C k30 w A0 l0.length l0) (hc0 : l0.length ≤ c0) (h : skywaykeep1_TubeShifts.f k l0 a1_0 a1_1 a2 a3 = some r) :
    Calls Try.prog 6 #[.slice A0 l0.length c0, .agg #[.int .i64 a1_0, .int .i64 a1_1], .int .i64 a2, .int .i64 a3] w fun e w' => e = .returned (.bool r) ∧ Below w.heap.size w w' := by
 have hu26 := Try.underlying26
 have hu30 := Try.underlying30
 have HR0 := Aside0.mk hr0
 have HC0 := Aside0.mk hc0
 clear hr0 hc0
 have HB := Aside0.mk (Below.refl w.heap.size w)
 have H : ((skywaykeep1_tubeWorks.f k).bind fun t217 => (if t217 = true then ((tube_Shift.f k l0 a1_0 a1_1 a2).bind fun bt218 => (if bt218.2 = 0 then (if 0 < (l0.length : Int) then ((tube_At.f k l0 (wrap64 (((rd_T30 l0 0).f0.f0) + (Int.tmod (wrap64 ((Int.tmod a3 1000) + 1000)) 1000)))).bind fun bt223 => ((tube_At.f k bt218.1 (wrap64 ((wrap64 (((rd_T30 l0 0).f0.f0) + (Int.tmod (wrap64 ((Int.tmod a3 1000) + 1000)) 1000))) + a2))).bind fun bt231 => ((plane_Add.f bt223.2.1 bt223.2.2.1 a1_0 a1_1).bind fun bt239 => (if bt223.2.2.2.2.2.2 = bt231.2.2.2.2.2.2 then (if bt223.2.2.2.2.2.2 = 0 then (some (((wrap64 (bt223.1 + a2)) == bt231.1 && ((bt239.1 == bt231.2.1 && (bt239.2 == bt231.2.2.1)) && (bt223.2.2.2.1 == bt231.2.2.2.1))) && (bt223.2.2.2.2.1 == bt231.2.2.2.2.1 && (bt223.2.2.2.2.2.1 == bt231.2.2.2.2.2.1)))) else (some true)) else (some false))))) else (none)) else (some ((bt218.1.length : Int) == 0)))) else (some false))) = some r := h
 clear h
 replace H := Option.bind_eq_some_iff.mp H
 obtain ⟨t217, A50, H⟩ := H
 replace H : (if t217 = true then ((tube_Shift.f k l0 a1_0 a1_1 a2).bind fun bt218 => (if bt218.2 = 0 then (if 0 < (l0.length : Int) then ((tube_At.f k l0 (wrap64 (((rd_T30 l0 0).f0.f0) + (Int.tmod (wrap64 ((Int.tmod a3 1000) + 1000)) 1000)))).bind fun bt223 => ((tube_At.f k bt218.1 (wrap64 ((wrap64 (((rd_T30 l0 0).f0.f0) + (Int.tmod (wrap64 ((Int.tmod a3 1000) + 1000)) 1000))) + a2))).bind fun bt231 => ((plane_Add.f bt223.2.1 bt223.2.2.1 a1_0 a1_1).bind fun bt239 => (if bt223.2.2.2.2.2.2 = bt231.2.2.2.2.2.2 then (if bt223.2.2.2.2.2.2 = 0 then (some (((wrap64 (bt223.1 + a2)) == bt231.1 && ((bt239.1 == bt231.2.1 && (bt239.2 == bt231.2.2.1)) && (bt223.2.2.2.1 == bt231.2.2.2.1))) && (bt223.2.2.2.2.1 == bt231.2.2.2.2.1 && (bt223.2.2.2.2.2.1 == bt231.2.2.2.2.2.1)))) else (some true)) else (some false))))) else (none)) else (some ((bt218.1.length : Int) == 0)))) else (some false)) = some r := H
 have A5 := Aside0.mk A50
 clear A50
 refine Or.elim (Classical.em (t217 = true)) (fun c6 => ?p2_) (fun c6 => ?n2_)
 case' p2_ =>
  subst c6
  have H1 : ((tube_Shift.f k l0 a1_0 a1_1 a2).bind fun bt218 => (if bt218.2 = 0 then (if 0 < (l0.length : Int) then ((tube_At.f k l0 (wrap64 (((rd_T30 l0 0).f0.f0) + (Int.tmod (wrap64 ((Int.tmod a3 1000) + 1000)) 1000)))).bind fun bt223 => ((tube_At.f k bt218.1 (wrap64 ((wrap64 (((rd_T30 l0 0).f0.f0) + (Int.tmod (wrap64 ((Int.tmod a3 1000) + 1000)) 1000))) + a2))).bind fun bt231 => ((plane_Add.f bt223.2.1 bt223.2.2.1 a1_0 a1_1).bind fun bt239 => (if bt223.2.2.2.2.2.2 = bt231.2.2.2.2.2.2 then (if bt223.2.2.2.2.2.2 = 0 then (some (((wrap64 (bt223.1 + a2)) == bt231.1 && ((bt239.1 == bt231.2.1 && (bt239.2 == bt231.2.2.1)) && (bt223.2.2.2.1 == bt231.2.2.2.1))) && (bt223.2.2.2.2.1 == bt231.2.2.2.2.1 && (bt223.2.2.2.2.2.1 == bt231.2.2.2.2.2.1)))) else (some true)) else (some false))))) else (none)) else (some ((bt218.1.length : Int) == 0)))) = some r := by rw [if_pos rfl] at H; exact H
  clear H
  have H := H1
  clear H1
  replace H := Option.bind_eq_some_iff.mp H
  obtain ⟨⟨t218, t221⟩, A70, H⟩ := H
  replace H : (if t221 = 0 then (if 0 < (l0.length : Int) then ((tube_At.f k l0 (wrap64 (((rd_T30 l0 0).f0.f0) + (Int.tmod (wrap64 ((Int.tmod a3 1000) + 1000)) 1000)))).bind fun bt223 => ((tube_At.f k t218 (wrap64 ((wrap64 (((rd_T30 l0 0).f0.f0) + (Int.tmod (wrap64 ((Int.tmod a3 1000) + 1000)) 1000))) + a2))).bind fun bt231 => ((plane_Add.f bt223.2.1 bt223.2.2.1 a1_0 a1_1).bind fun bt239 => (if bt223.2.2.2.2.2.2 = bt231.2.2.2.2.2.2 then (if bt223.2.2.2.2.2.2 = 0 then (some (((wrap64 (bt223.1 + a2)) == bt231.1 && ((bt239.1 == bt231.2.1 && (bt239.2 == bt231.2.2.1)) && (bt223.2.2.2.1 == bt231.2.2.2.1))) && (bt223.2.2.2.2.1 == bt231.2.2.2.2.1 && (bt223.2.2.2.2.2.1 == bt231.2.2.2.2.2.1)))) else (some true)) else (some false))))) else (none)) else (some ((t218.length : Int) == 0))) = some r := H
  have A7 := Aside0.mk A70
  clear A70
  refine Or.elim (Classical.em (t221 = 0)) (fun c8 => ?p3_) (fun c8 => ?n3_)
  case' p3_ =>
   rw [if_pos c8] at H
   have c8b0 : (t221 == 0) = true := beq_iff_eq.mpr c8
   have c8b1 : (t221 != 0) = false := bne_eq_false_iff_eq.mpr c8
   clear c8
   refine Or.elim (Classical.em (0 < (l0.length : Int))) (fun c9 => ?p4_) (fun c9 => ?n4_)
   case' p4_ =>
    rw [if_pos c9] at H
    have c9b0 : decide (0 < (l0.length : Int)) = true := decide_eq_true c9
    have c9b1 : decide (0 < l0.length) = true := decide_eq_true (by omega)
    clear c9
    replace H := Option.bind_eq_some_iff.mp H
    obtain ⟨⟨t223, t224, t225, t226, t227, t228, t229⟩, A100, H⟩ := H
    replace H : ((tube_At.f k t218 (wrap64 ((wrap64 (((rd_T30 l0 0).f0.f0) + (Int.tmod (wrap64 ((Int.tmod a3 1000) + 1000)) 1000))) + a2))).bind fun bt231 => ((plane_Add.f t224 t225 a1_0 a1_1).bind fun bt239 => (if t229 = bt231.2.2.2.2.2.2 then (if t229 = 0 then (some (((wrap64 (t223 + a2)) == bt231.1 && ((bt239.1 == bt231.2.1 && (bt239.2 == bt231.2.2.1)) && (t226 == bt231.2.2.2.1))) && (t227 == bt231.2.2.2.2.1 && (t228 == bt231.2.2.2.2.2.1)))) else (some true)) else (some false)))) = some r := H
    have A10 := Aside0.mk A100
    clear A100
    replace H := Option.bind_eq_some_iff.mp H
    obtain ⟨⟨t231, t232, t233, t234, t235, t236, t237⟩, A110, H⟩ := H
    replace H : ((plane_Add.f t224 t225 a1_0 a1_1).bind fun bt239 => (if t229 = t237 then (if t229 = 0 then (some (((wrap64 (t223 + a2)) == t231 && ((bt239.1 == t232 && (bt239.2 == t233)) && (t226 == t234))) && (t227 == t235 && (t228 == t236)))) else (some true)) else (some false))) = some r := H
    have A11 := Aside0.mk A110
    clear A110
    replace H := Option.bind_eq_some_iff.mp H
    obtain ⟨⟨t239, t240⟩, A120, H⟩ := H
    replace H : (if t229 = t237 then (if t229 = 0 then (some (((wrap64 (t223 + a2)) == t231 && ((t239 == t232 && (t240 == t233)) && (t226 == t234))) && (t227 == t235 && (t228 == t236)))) else (some true)) else (some false)) = some r := H
    have A12 := Aside0.mk A120
    clear A120
    refine Or.elim (Classical.em (t229 = t237)) (fun c13 => ?p5_) (fun c13 => ?n5_)
    case' p5_ =>
     rw [if_pos c13] at H
     have c13b0 : (t229 == t237) = true := beq_iff_eq.mpr c13
     have c13b1 : (t229 != t237) = false := bne_eq_false_iff_eq.mpr c13
     clear c13
     refine Or.elim (Classical.em (t229 = 0)) (fun c14 => ?p6_) (fun c14 => ?n6_)
     case' p6_ =>
      rw [if_pos c14] at H
      have c14b0 : (t229 == 0) = true := beq_iff_eq.mpr c14
      have c14b1 : (t229 != 0) = false := bne_eq_false_iff_eq.mpr c14
      clear c14
      have hm1_0 := Aside0.mk trivial
     case' n6_ =>
      rw [if_neg c14] at H
      have c14b0 : (t229 == 0) = false := beq_eq_false_iff_ne.mpr c14
      have c14b1 : (t229 != 0) = true := bne_iff_ne.mpr c14
      have hm1_1 := Aside0.mk trivial
    case' n5_ =>
     rw [if_neg c13] at H
     have c13b0 : (t229 == t237) = false := beq_eq_false_iff_ne.mpr c13
     have c13b1 : (t229 != t237) = true := bne_iff_ne.mpr c13
     have hm1_1 := Aside0.mk trivial
   case' n4_ =>
    rw [if_neg c9] at H
    exact absurd H (by simp)
  case' n3_ =>
   rw [if_neg c8] at H
   have c8b0 : (t221 == 0) = false := beq_eq_false_iff_ne.mpr c8
   have c8b1 : (t221 != 0) = true := bne_iff_ne.mpr c8
   have hm1_2 := Aside0.mk trivial
 case' n2_ =>
  replace c6 := Bool.eq_false_iff.mpr c6
  subst c6
  have H1 : (some false) = some r := by rw [if_neg (show ¬ (false = true) by decide)] at H; exact H
  clear H
  have H := H1
  clear H1
  have hm1_2 := Aside0.mk trivial
 all_goals
  obtain rfl := Option.some.inj H
  go_enter Try.func6, Try.ntmps6
  first
   | (first | (have _hm := hm1_0) | (have _hm := hm1_1))
     try go_wp2_with (first | ((with_reducible refine gate_dst (N := 5) rfl ?_); refine box_event ?hg (N := 5) ?hd (cs := #[.int .i64 a1_0, .int .i64 a1_1]) (t := 26) ?hr ?_; (case hd => rfl); (case hg => rfl); (case hr => first | (go_simp; done) | (go_simp; rfl)); intro gb216 hg wxd7dc1 hbox hb; have n0_ := Aside0.mk (below_step (by repeat (first | (with_reducible first | exact HB.out | apply below_alloc | apply pw_below_drewN | apply below_drew1) | exact HB.out)) hb); have n1_ := Aside0.mk (hbox); have n2_ := Aside0.mk ((by rw [hg]; exact (below_size (by repeat (first | (with_reducible first | exact HB.out | apply below_alloc | apply pw_below_drewN | apply below_drew1) | exact HB.out))) : w.heap.size ≤ gb216)); have n3_ := Aside0.mk ((by rw [hg]; exact (below_size (by repeat (first | (with_reducible first | exact HB.out | apply below_alloc | apply pw_below_drewN | apply below_drew1) | exact HB.out))) : w.heap.size ≤ gb216)); clear HB; have HB := n0_; have BK216 := n1_; have GW216 := n2_; have GE216 := n3_; clear n0_ n1_ n2_ n3_; clear hb hbox hg) | ((with_reducible refine gate_callee (f := 15) rfl ?_); refine goesL_ (some 15) rfl rfl Try.func15 (by kernel_rfl) rfl #[] rfl (by (try simp only [List.map_toArray, List.map_cons, List.map_nil]); first | done | rfl | (simp only [List.length_drop, List.length_take]; rfl)) ?_; (with_reducible refine (skywaykeep1_tubeWorks.calls k  true _ A5.out).mono ?_); rintro e wx2c7e1 ⟨rfl, hb⟩; refine ⟨_, rfl, ?_⟩; have n0_ := Aside0.mk (blk_below (g := gb216) (o := .cells #[.int .i64 a1_0, .int .i64 a1_1] 26 (0, 0)) (by (with_reducible repeat (first | refine blk_drewN ?_ _ | refine blk_drew ?_ | refine blk_alloc ?_ _)); exact BK216.out) hb); have n1_ := Aside0.mk (below_step (by repeat (first | (with_reducible first | exact HB.out | apply below_alloc | apply pw_below_drewN | apply below_drew1 | refine below_set ?_ GE216.out) | exact HB.out)) hb); clear BK216; clear HB; have BK216 := n0_; have HB := n1_; clear n0_ n1_; (try clear hb); (try clear hb2); (try clear hk); (try clear hi); have hczx2c7e1 : wx2c7e1.cell? ⟨gb216, 0, none⟩ = some (.int .i64 a1_0) := (blk_cell BK216.out 0).trans rfl; have hczx2c7e2 : wx2c7e1.cell? ⟨gb216, 1, none⟩ = some (.int .i64 a1_1) := (blk_cell BK216.out 1).trans rfl; have hfzx2c7e1 := blk_frozen BK216.out 0; have hfzx2c7e2 := blk_frozen BK216.out 1) | ((with_reducible refine gate_callee (f := 23) rfl ?_); refine goesL_ (some 21) rfl rfl Try.func23 (by kernel_rfl) rfl #[.slice A0 l0.length c0, .agg #[.int .i64 a1_0, .int .i64 a1_1], .int .i64 a2] rfl (by (try simp only [List.map_toArray, List.map_cons, List.map_nil]); first | done | rfl | (simp only [List.length_drop, List.length_take]; rfl)) ?_; (with_reducible refine (tube_Shift.calls k _ _ l0 a1_0 a1_1 a2 t218 t221 _ ?side1 ?side2 A7.out).mono ?_); (case side1 => repeat (first | exact (Kd.C_below HR0.out HB.out) | (with_reducible refine Kd.C_alloc ?_ _) | (with_reducible refine Kd.C_drewN ?_ _) | (with_reducible refine Kd.C_drew ?_))); (case side2 => exact HC0.out); rintro e wx0e5a1 ⟨v219, rfl, hox0e5a1, hb⟩; refine ⟨_, rfl, ?_⟩; have n0_ := Aside0.mk (Kd.R_lower hox0e5a1 (below_size (by repeat (first | (with_reducible first | exact HB.out | apply below_alloc | apply pw_below_drewN | apply below_drew1 | refine below_set ?_ GE216.out) | exact HB.out)))); have n1_ := Aside0.mk (blk_below (g := gb216) (o := .cells #[.int .i64 a1_0, .int .i64 a1_1] 26 (0, 0)) (by (with_reducible repeat (first | refine blk_drewN ?_ _ | refine blk_drew ?_ | refine blk_alloc ?_ _)); exact BK216.out) hb); have n2_ := Aside0.mk (below_step (by repeat (first | (with_reducible first | exact HB.out | apply below_alloc | apply pw_below_drewN | apply below_drew1 | refine below_set ?_ GE216.out) | exact HB.out)) hb); clear BK216; clear HB; have HO220 := n0_; have BK216 := n1_; have HB := n2_; clear n0_ n1_ n2_; (try clear hb); (try clear hb2); (try clear hk); (try clear hi); (try clear hox0e5a1); have p222 : 0 ≤ (0 : Int) := (by omega); have q222 : 0 < (l0.length : Int) := of_decide_eq_true (by first | (with_reducible assumption) | assumption); obtain ⟨ad222, e222, hx222_0, hx222_1, hx222_2, hx222_3, hx222_4, hx222_5⟩ := at_T30 HR0.out 0 p222 q222; cases e222; have qi222 : (0 < l0.length) = True := eq_true (by omega); (try rw [show ((0 : Int)).toNat = 0 from rfl] at hx222_0); (try rw [show 0 * 6 = 0 from rfl] at hx222_0); (try rw [Addr.add_zero'] at hx222_0); (try rw [show ((0 : Int)).toNat = 0 from rfl] at hx222_1); (try rw [show 0 * 6 = 0 from rfl] at hx222_1); (try rw [Addr.add_zero'] at hx222_1); (try rw [show ((0 : Int)).toNat = 0 from rfl] at hx222_2); (try rw [show 0 * 6 = 0 from rfl] at hx222_2); (try rw [Addr.add_zero'] at hx222_2); (try rw [show ((0 : Int)).toNat = 0 from rfl] at hx222_3); (try rw [show 0 * 6 = 0 from rfl] at hx222_3); (try rw [Addr.add_zero'] at hx222_3); (try rw [show ((0 : Int)).toNat = 0 from rfl] at hx222_4); (try rw [show 0 * 6 = 0 from rfl] at hx222_4); (try rw [Addr.add_zero'] at hx222_4); (try rw [show ((0 : Int)).toNat = 0 from rfl] at hx222_5); (try rw [show 0 * 6 = 0 from rfl] at hx222_5); (try rw [Addr.add_zero'] at hx222_5); replace hx222_0 := (HB.out.cell (World.block_lt_of_cell? w _ hx222_0)).trans hx222_0; replace hx222_1 := (HB.out.cell (World.block_lt_of_cell? w _ hx222_1)).trans hx222_1; replace hx222_2 := (HB.out.cell (World.block_lt_of_cell? w _ hx222_2)).trans hx222_2; replace hx222_3 := (HB.out.cell (World.block_lt_of_cell? w _ hx222_3)).trans hx222_3; replace hx222_4 := (HB.out.cell (World.block_lt_of_cell? w _ hx222_4)).trans hx222_4; replace hx222_5 := (HB.out.cell (World.block_lt_of_cell? w _ hx222_5)).trans hx222_5; replace p222 := eq_true p222; replace q222 := eq_true q222) | ((with_reducible refine gate_callee (f := 16) rfl ?_); refine goesL_ (some 42) rfl rfl Try.func16 (by kernel_rfl) rfl #[.slice (some ad222) l0.length c0, .int .i64 (wrap64 (((rd_T30 l0 0).f0.f0) + (Int.tmod (wrap64 ((Int.tmod a3 1000) + 1000)) 1000)))] rfl (by (try simp only [List.map_toArray, List.map_cons, List.map_nil]); first | done | rfl | (simp only [List.length_drop, List.length_take]; rfl)) ?_; (with_reducible refine (tube_At.calls k _ _ l0 (wrap64 (((rd_T30 l0 0).f0.f0) + (Int.tmod (wrap64 ((Int.tmod a3 1000) + 1000)) 1000))) t223 t224 t225 t226 t227 t228 t229 _ ?side1 ?side2 A10.out).mono ?_); (case side1 => repeat (first | exact (Kd.C_below HR0.out HB.out) | (with_reducible refine Kd.C_alloc ?_ _) | (with_reducible refine Kd.C_drewN ?_ _) | (with_reducible refine Kd.C_drew ?_))); (case side2 => exact HC0.out); rintro e wx20dc1 ⟨rfl, hb⟩; refine ⟨_, rfl, ?_⟩; have n0_ := Aside0.mk (Kd.R_below (by (with_reducible repeat (first | apply Kd.R_alloc | apply Kd.R_drewN | apply Kd.R_drew)); exact HO220.out) hb); have n1_ := Aside0.mk (blk_below (g := gb216) (o := .cells #[.int .i64 a1_0, .int .i64 a1_1] 26 (0, 0)) (by (with_reducible repeat (first | refine blk_drewN ?_ _ | refine blk_drew ?_ | refine blk_alloc ?_ _)); exact BK216.out) hb); have n2_ := Aside0.mk (below_step (by repeat (first | (with_reducible first | exact HB.out | apply below_alloc | apply pw_below_drewN | apply below_drew1 | refine below_set ?_ GE216.out) | exact HB.out)) hb); clear HO220; clear BK216; clear HB; have HO220 := n0_; have BK216 := n1_; have HB := n2_; clear n0_ n1_ n2_; (try clear hb); (try clear hb2); (try clear hk); (try clear hi)) | ((with_reducible refine gate_dst (N := 11) rfl ?_); refine box_event ?hg (N := 11) ?hd (cs := #[.int .i64 0, .int .i64 0, .int .i64 0, .int .i64 0, .int .i64 0, .int .i64 0]) (t := 30) ?hr ?_; (case hd => rfl); (case hg => rfl); (case hr => first | (go_simp; done) | (go_simp; rfl)); intro gb230 hg wx72a31 hbox hb; have n0_ := Aside0.mk (Kd.R_below (Kd.R_elderB (by (with_reducible repeat (first | apply Kd.R_alloc | apply Kd.R_drewN | apply Kd.R_drew)); exact HO220.out) gb230 (Nat.le_of_eq hg.symm)) hb); have n1_ := Aside0.mk (blk_below (g := gb216) (o := .cells #[.int .i64 a1_0, .int .i64 a1_1] 26 (0, 0)) (by (with_reducible repeat (first | refine blk_drewN ?_ _ | refine blk_drew ?_ | refine blk_alloc ?_ _)); exact BK216.out) hb); have n2_ := Aside0.mk (below_step (by repeat (first | (with_reducible first | exact HB.out | apply below_alloc | apply pw_below_drewN | apply below_drew1 | refine below_set ?_ GE216.out) | exact HB.out)) hb); have n3_ := Aside0.mk (hbox); have n4_ := Aside0.mk ((by rw [hg]; exact (below_size (by repeat (first | (with_reducible first | exact HB.out | apply below_alloc | apply pw_below_drewN | apply below_drew1 | refine below_set ?_ GE216.out) | exact HB.out))) : w.heap.size ≤ gb230)); have n5_ := Aside0.mk ((by rw [hg]; exact (below_size (by repeat (first | (with_reducible first | exact HB.out | apply below_alloc | apply pw_below_drewN | apply below_drew1 | refine below_set ?_ GE216.out) | exact HB.out))) : w.heap.size ≤ gb230)); have n6_ := Aside0.mk ((by rw [hg]; exact Nat.ne_of_lt (blk_lt (g := gb216) (o := .cells #[.int .i64 a1_0, .int .i64 a1_1] 26 (0, 0)) (by (with_reducible repeat (first | refine blk_drewN ?_ _ | refine blk_drew ?_ | refine blk_alloc ?_ _)); exact BK216.out)) : gb216 ≠ gb230)); have n7_ := Aside0.mk ((by rw [hg]; exact Nat.ne_of_gt (blk_lt (g := gb216) (o := .cells #[.int .i64 a1_0, .int .i64 a1_1] 26 (0, 0)) (by (with_reducible repeat (first | refine blk_drewN ?_ _ | refine blk_drew ?_ | refine blk_alloc ?_ _)); exact BK216.out)) : gb230 ≠ gb216)); clear HO220; clear BK216; clear HB; have HO220 := n0_; have BK216 := n1_; have HB := n2_; have BK230 := n3_; have GW230 := n4_; have GE230 := n5_; have NB216_230 := n6_; have NB230_216 := n7_; clear n0_ n1_ n2_ n3_ n4_ n5_ n6_ n7_; clear hb hbox hg; have hnbx72a31 := NB230_216.out; have hncx72a31 := NB216_230.out; have hczx72a31 : wx72a31.cell? ⟨gb230, 0, none⟩ = some (.int .i64 0) := (blk_cell BK230.out 0).trans rfl; have hczx72a32 : wx72a31.cell? ⟨gb230, 1, none⟩ = some (.int .i64 0) := (blk_cell BK230.out 1).trans rfl; have hczx72a33 : wx72a31.cell? ⟨gb230, 2, none⟩ = some (.int .i64 0) := (blk_cell BK230.out 2).trans rfl; have hczx72a34 : wx72a31.cell? ⟨gb230, 3, none⟩ = some (.int .i64 0) := (blk_cell BK230.out 3).trans rfl; have hczx72a35 : wx72a31.cell? ⟨gb230, 4, none⟩ = some (.int .i64 0) := (blk_cell BK230.out 4).trans rfl; have hczx72a36 : wx72a31.cell? ⟨gb230, 5, none⟩ = some (.int .i64 0) := (blk_cell BK230.out 5).trans rfl; have hfzx72a31 := blk_frozen BK230.out 0; have hfzx72a32 := blk_frozen BK230.out 1; have hfzx72a33 := blk_frozen BK230.out 2; have hfzx72a34 := blk_frozen BK230.out 3; have hfzx72a35 := blk_frozen BK230.out 4; have hfzx72a36 := blk_frozen BK230.out 5; obtain ⟨Aox72a31, cox72a31, eox72a31⟩ := Kd.R_slice HO220.out; subst eox72a31) | ((with_reducible refine gate_callee (f := 16) rfl ?_); refine goesL_ (some 50) rfl rfl Try.func16 (by kernel_rfl) rfl #[.slice Aox72a31 t218.length cox72a31, .int .i64 (wrap64 ((wrap64 (((rd_T30 l0 0).f0.f0) + (Int.tmod (wrap64 ((Int.tmod a3 1000) + 1000)) 1000))) + a2))] rfl (by (try simp only [List.map_toArray, List.map_cons, List.map_nil]); first | done | rfl | (simp only [List.length_drop, List.length_take]; rfl)) ?_; (with_reducible refine (tube_At.calls k _ _ t218 (wrap64 ((wrap64 (((rd_T30 l0 0).f0.f0) + (Int.tmod (wrap64 ((Int.tmod a3 1000) + 1000)) 1000))) + a2)) t231 t232 t233 t234 t235 t236 t237 _ ?side1 ?side2 A11.out).mono ?_); (case side1 => refine (Kd.R_reads' (e := 30) (base := w.heap.size) (ok := fun k_ => (True ∧ k_ ≠ gb230)) (n := t218.length) (c := cox72a31) ?_).2.2; exact (by (with_reducible repeat (first | apply Kd.R_alloc | apply Kd.R_drewN | apply Kd.R_drew)); exact (Kd.R_mono (Kd.R_far (p := ⟨gb230, 5, none⟩) (Kd.R_far (p := ⟨gb230, 4, none⟩) (Kd.R_far (p := ⟨gb230, 3, none⟩) (Kd.R_far (p := ⟨gb230, 2, none⟩) (Kd.R_far (p := ⟨gb230, 1, none⟩) (Kd.R_far (p := ⟨gb230, 0, none⟩) (Kd.R_mono HO220.out (fun k_ hk => (⟨hk, hk.2⟩ : _ ∧ k_ ≠ gb230))) (fun _ hk => hk.2) (.int .i64 t223)) (fun _ hk => hk.2) (.int .i64 t224)) (fun _ hk => hk.2) (.int .i64 t225)) (fun _ hk => hk.2) (.int .i64 t226)) (fun _ hk => hk.2) (.int .i64 t227)) (fun _ hk => hk.2) (.int .i64 t228)) (fun _ h_ => h_.1)))); (case side2 => exact (Kd.R_reads' HO220.out).2.1); rintro e wx17b71 ⟨rfl, hb⟩; refine ⟨_, rfl, ?_⟩; have n0_ := Aside0.mk (Kd.R_below (by (with_reducible repeat (first | apply Kd.R_alloc | apply Kd.R_drewN | apply Kd.R_drew)); exact (Kd.R_mono (Kd.R_far (p := ⟨gb230, 5, none⟩) (Kd.R_far (p := ⟨gb230, 4, none⟩) (Kd.R_far (p := ⟨gb230, 3, none⟩) (Kd.R_far (p := ⟨gb230, 2, none⟩) (Kd.R_far (p := ⟨gb230, 1, none⟩) (Kd.R_far (p := ⟨gb230, 0, none⟩) (Kd.R_mono HO220.out (fun k_ hk => (⟨hk, hk.2⟩ : _ ∧ k_ ≠ gb230))) (fun _ hk => hk.2) (.int .i64 t223)) (fun _ hk => hk.2) (.int .i64 t224)) (fun _ hk => hk.2) (.int .i64 t225)) (fun _ hk => hk.2) (.int .i64 t226)) (fun _ hk => hk.2) (.int .i64 t227)) (fun _ hk => hk.2) (.int .i64 t228)) (fun _ h_ => h_.1))) hb); have n1_ := Aside0.mk (blk_below (g := gb216) (o := .cells #[.int .i64 a1_0, .int .i64 a1_1] 26 (0, 0)) (by (with_reducible repeat (first | refine blk_drewN ?_ _ | refine blk_drew ?_ | refine blk_alloc ?_ _)); refine blk_far ?_ NB216_230.out _; (with_reducible repeat (first | refine blk_drewN ?_ _ | refine blk_drew ?_ | refine blk_alloc ?_ _)); refine blk_far ?_ NB216_230.out _; (with_reducible repeat (first | refine blk_drewN ?_ _ | refine blk_drew ?_ | refine blk_alloc ?_ _)); refine blk_far ?_ NB216_230.out _; (with_reducible repeat (first | refine blk_drewN ?_ _ | refine blk_drew ?_ | refine blk_alloc ?_ _)); refine blk_far ?_ NB216_230.out _; (with_reducible repeat (first | refine blk_drewN ?_ _ | refine blk_drew ?_ | refine blk_alloc ?_ _)); refine blk_far ?_ NB216_230.out _; (with_reducible repeat (first | refine blk_drewN ?_ _ | refine blk_drew ?_ | refine blk_alloc ?_ _)); refine blk_far ?_ NB216_230.out _; (with_reducible repeat (first | refine blk_drewN ?_ _ | refine blk_drew ?_ | refine blk_alloc ?_ _)); exact BK216.out) hb); have n2_ := Aside0.mk (blk_below (g := gb230) (o := .cells #[.int .i64 t223, .int .i64 t224, .int .i64 t225, .int .i64 t226, .int .i64 t227, .int .i64 t228] 30 (0, 0)) (by (with_reducible repeat (first | refine blk_drewN ?_ _ | refine blk_drew ?_ | refine blk_alloc ?_ _)); refine blk_put (cs := #[.int .i64 t223, .int .i64 t224, .int .i64 t225, .int .i64 t226, .int .i64 t227, .int .i64 0]) ?_ 5 _ rfl; (with_reducible repeat (first | refine blk_drewN ?_ _ | refine blk_drew ?_ | refine blk_alloc ?_ _)); refine blk_put (cs := #[.int .i64 t223, .int .i64 t224, .int .i64 t225, .int .i64 t226, .int .i64 0, .int .i64 0]) ?_ 4 _ rfl; (with_reducible repeat (first | refine blk_drewN ?_ _ | refine blk_drew ?_ | refine blk_alloc ?_ _)); refine blk_put (cs := #[.int .i64 t223, .int .i64 t224, .int .i64 t225, .int .i64 0, .int .i64 0, .int .i64 0]) ?_ 3 _ rfl; (with_reducible repeat (first | refine blk_drewN ?_ _ | refine blk_drew ?_ | refine blk_alloc ?_ _)); refine blk_put (cs := #[.int .i64 t223, .int .i64 t224, .int .i64 0, .int .i64 0, .int .i64 0, .int .i64 0]) ?_ 2 _ rfl; (with_reducible repeat (first | refine blk_drewN ?_ _ | refine blk_drew ?_ | refine blk_alloc ?_ _)); refine blk_put (cs := #[.int .i64 t223, .int .i64 0, .int .i64 0, .int .i64 0, .int .i64 0, .int .i64 0]) ?_ 1 _ rfl; (with_reducible repeat (first | refine blk_drewN ?_ _ | refine blk_drew ?_ | refine blk_alloc ?_ _)); refine blk_put (cs := #[.int .i64 0, .int .i64 0, .int .i64 0, .int .i64 0, .int .i64 0, .int .i64 0]) ?_ 0 _ rfl; (with_reducible repeat (first | refine blk_drewN ?_ _ | refine blk_drew ?_ | refine blk_alloc ?_ _)); exact BK230.out) hb); have n3_ := Aside0.mk (below_step (by repeat (first | (with_reducible first | exact HB.out | apply below_alloc | apply pw_below_drewN | apply below_drew1 | refine below_set ?_ GE216.out | refine below_set ?_ GE230.out) | exact HB.out)) hb); clear HO220; clear BK216; clear BK230; clear HB; have HO220 := n0_; have BK216 := n1_; have BK230 := n2_; have HB := n3_; clear n0_ n1_ n2_ n3_; (try clear hb); (try clear hb2); (try clear hk); (try clear hi)) | ((with_reducible refine gate_dst (N := 13) rfl ?_); refine box_event ?hg (N := 13) ?hd (cs := #[.int .i64 0, .int .i64 0, .int .i64 0, .int .i64 0, .int .i64 0, .int .i64 0]) (t := 30) ?hr ?_; (case hd => rfl); (case hg => rfl); (case hr => first | (go_simp; done) | (go_simp; rfl)); intro gb238 hg wx73f71 hbox hb; have n0_ := Aside0.mk (Kd.R_below (Kd.R_elderB (by (with_reducible repeat (first | apply Kd.R_alloc | apply Kd.R_drewN | apply Kd.R_drew)); exact HO220.out) gb238 (Nat.le_of_eq hg.symm)) hb); have n1_ := Aside0.mk (blk_below (g := gb216) (o := .cells #[.int .i64 a1_0, .int .i64 a1_1] 26 (0, 0)) (by (with_reducible repeat (first | refine blk_drewN ?_ _ | refine blk_drew ?_ | refine blk_alloc ?_ _)); exact BK216.out) hb); have n2_ := Aside0.mk (blk_below (g := gb230) (o := .cells #[.int .i64 t223, .int .i64 t224, .int .i64 t225, .int .i64 t226, .int .i64 t227, .int .i64 t228] 30 (0, 0)) (by (with_reducible repeat (first | refine blk_drewN ?_ _ | refine blk_drew ?_ | refine blk_alloc ?_ _)); exact BK230.out) hb); have n3_ := Aside0.mk (below_step (by repeat (first | (with_reducible first | exact HB.out | apply below_alloc | apply pw_below_drewN | apply below_drew1 | refine below_set ?_ GE216.out | refine below_set ?_ GE230.out) | exact HB.out)) hb); have n4_ := Aside0.mk (hbox); have n5_ := Aside0.mk ((by rw [hg]; exact (below_size (by repeat (first | (with_reducible first | exact HB.out | apply below_alloc | apply pw_below_drewN | apply below_drew1 | refine below_set ?_ GE216.out | refine below_set ?_ GE230.out) | exact HB.out))) : w.heap.size ≤ gb238)); have n6_ := Aside0.mk ((by rw [hg]; exact (below_size (by repeat (first | (with_reducible first | exact HB.out | apply below_alloc | apply pw_below_drewN | apply below_drew1 | refine below_set ?_ GE216.out | refine below_set ?_ GE230.out) | exact HB.out))) : w.heap.size ≤ gb238)); have n7_ := Aside0.mk ((by rw [hg]; exact Nat.ne_of_lt (blk_lt (g := gb216) (o := .cells #[.int .i64 a1_0, .int .i64 a1_1] 26 (0, 0)) (by (with_reducible repeat (first | refine blk_drewN ?_ _ | refine blk_drew ?_ | refine blk_alloc ?_ _)); exact BK216.out)) : gb216 ≠ gb238)); have n8_ := Aside0.mk ((by rw [hg]; exact Nat.ne_of_gt (blk_lt (g := gb216) (o := .cells #[.int .i64 a1_0, .int .i64 a1_1] 26 (0, 0)) (by (with_reducible repeat (first | refine blk_drewN ?_ _ | refine blk_drew ?_ | refine blk_alloc ?_ _)); exact BK216.out)) : gb238 ≠ gb216)); have n9_ := Aside0.mk ((by rw [hg]; exact Nat.ne_of_lt (blk_lt (g := gb230) (o := .cells #[.int .i64 t223, .int .i64 t224, .int .i64 t225, .int .i64 t226, .int .i64 t227, .int .i64 t228] 30 (0, 0)) (by (with_reducible repeat (first | refine blk_drewN ?_ _ | refine blk_drew ?_ | refine blk_alloc ?_ _)); exact BK230.out)) : gb230 ≠ gb238)); have n10_ := Aside0.mk ((by rw [hg]; exact Nat.ne_of_gt (blk_lt (g := gb230) (o := .cells #[.int .i64 t223, .int .i64 t224, .int .i64 t225, .int .i64 t226, .int .i64 t227, .int .i64 t228] 30 (0, 0)) (by (with_reducible repeat (first | refine blk_drewN ?_ _ | refine blk_drew ?_ | refine blk_alloc ?_ _)); exact BK230.out)) : gb238 ≠ gb230)); clear HO220; clear BK216; clear BK230; clear HB; have HO220 := n0_; have BK216 := n1_; have BK230 := n2_; have HB := n3_; have BK238 := n4_; have GW238 := n5_; have GE238 := n6_; have NB216_238 := n7_; have NB238_216 := n8_; have NB230_238 := n9_; have NB238_230 := n10_; clear n0_ n1_ n2_ n3_ n4_ n5_ n6_ n7_ n8_ n9_ n10_; clear hb hbox hg; have hnbx73f71 := NB238_216.out; have hncx73f71 := NB216_238.out; have hnbx73f72 := NB238_230.out; have hncx73f72 := NB230_238.out; have hczx73f71 : wx73f71.cell? ⟨gb238, 0, none⟩ = some (.int .i64 0) := (blk_cell BK238.out 0).trans rfl; have hczx73f72 : wx73f71.cell? ⟨gb238, 1, none⟩ = some (.int .i64 0) := (blk_cell BK238.out 1).trans rfl; have hczx73f73 : wx73f71.cell? ⟨gb238, 2, none⟩ = some (.int .i64 0) := (blk_cell BK238.out 2).trans rfl; have hczx73f74 : wx73f71.cell? ⟨gb238, 3, none⟩ = some (.int .i64 0) := (blk_cell BK238.out 3).trans rfl; have hczx73f75 : wx73f71.cell? ⟨gb238, 4, none⟩ = some (.int .i64 0) := (blk_cell BK238.out 4).trans rfl; have hczx73f76 : wx73f71.cell? ⟨gb238, 5, none⟩ = some (.int .i64 0) := (blk_cell BK238.out 5).trans rfl; have hfzx73f71 := blk_frozen BK238.out 0; have hfzx73f72 := blk_frozen BK238.out 1; have hfzx73f73 := blk_frozen BK238.out 2; have hfzx73f74 := blk_frozen BK238.out 3; have hfzx73f75 := blk_frozen BK238.out 4; have hfzx73f76 := blk_frozen BK238.out 5))
     have n0_ : Aside0 (Kd.R k30 30 ((((((wx73f71.setCell ⟨gb238, 0, none⟩ (.int .i64 t231)).setCell ⟨gb238, 1, none⟩ (.int .i64 t232)).setCell ⟨gb238, 2, none⟩ (.int .i64 t233)).setCell ⟨gb238, 3, none⟩ (.int .i64 t234)).setCell ⟨gb238, 4, none⟩ (.int .i64 t235)).setCell ⟨gb238, 5, none⟩ (.int .i64 t236)) w.heap.size (fun k_ => k_ ≠ gb230 ∧ k_ ≠ gb238) (.slice Aox72a31 t218.length cox72a31) t218) := ⟨by (with_reducible repeat (first | apply Kd.R_alloc | apply Kd.R_drewN | apply Kd.R_drew)); exact Kd.R_mono (Kd.R_far (p := ⟨gb238, 5, none⟩) (Kd.R_far (p := ⟨gb238, 4, none⟩) (Kd.R_far (p := ⟨gb238, 3, none⟩) (Kd.R_far (p := ⟨gb238, 2, none⟩) (Kd.R_far (p := ⟨gb238, 1, none⟩) (Kd.R_far (p := ⟨gb238, 0, none⟩) (Kd.R_mono HO220.out (fun k_ hk => (⟨hk, hk.2⟩ : _ ∧ k_ ≠ gb238))) (fun _ hk => hk.2) (.int .i64 t231)) (fun _ hk => hk.2) (.int .i64 t232)) (fun _ hk => hk.2) (.int .i64 t233)) (fun _ hk => hk.2) (.int .i64 t234)) (fun _ hk => hk.2) (.int .i64 t235)) (fun _ hk => hk.2) (.int .i64 t236)) (fun _ hk => ⟨hk.1.1.2, hk.1.2⟩)⟩
     have n1_ : Aside0 (((((((wx73f71.setCell ⟨gb238, 0, none⟩ (.int .i64 t231)).setCell ⟨gb238, 1, none⟩ (.int .i64 t232)).setCell ⟨gb238, 2, none⟩ (.int .i64 t233)).setCell ⟨gb238, 3, none⟩ (.int .i64 t234)).setCell ⟨gb238, 4, none⟩ (.int .i64 t235)).setCell ⟨gb238, 5, none⟩ (.int .i64 t236)).heap[gb216]? = some (.cells #[.int .i64 a1_0, .int .i64 a1_1] 26 (0, 0))) := ⟨by (with_reducible repeat (first | refine blk_drewN ?_ _ | refine blk_drew ?_ | refine blk_alloc ?_ _)); refine blk_far ?_ NB216_238.out _; (with_reducible repeat (first | refine blk_drewN ?_ _ | refine blk_drew ?_ | refine blk_alloc ?_ _)); refine blk_far ?_ NB216_238.out _; (with_reducible repeat (first | refine blk_drewN ?_ _ | refine blk_drew ?_ | refine blk_alloc ?_ _)); refine blk_far ?_ NB216_238.out _; (with_reducible repeat (first | refine blk_drewN ?_ _ | refine blk_drew ?_ | refine blk_alloc ?_ _)); refine blk_far ?_ NB216_238.out _; (with_reducible repeat (first | refine blk_drewN ?_ _ | refine blk_drew ?_ | refine blk_alloc ?_ _)); refine blk_far ?_ NB216_238.out _; (with_reducible repeat (first | refine blk_drewN ?_ _ | refine blk_drew ?_ | refine blk_alloc ?_ _)); refine blk_far ?_ NB216_238.out _; (with_reducible repeat (first | refine blk_drewN ?_ _ | refine blk_drew ?_ | refine blk_alloc ?_ _)); exact BK216.out⟩
     have n2_ : Aside0 (((((((wx73f71.setCell ⟨gb238, 0, none⟩ (.int .i64 t231)).setCell ⟨gb238, 1, none⟩ (.int .i64 t232)).setCell ⟨gb238, 2, none⟩ (.int .i64 t233)).setCell ⟨gb238, 3, none⟩ (.int .i64 t234)).setCell ⟨gb238, 4, none⟩ (.int .i64 t235)).setCell ⟨gb238, 5, none⟩ (.int .i64 t236)).heap[gb230]? = some (.cells #[.int .i64 t223, .int .i64 t224, .int .i64 t225, .int .i64 t226, .int .i64 t227, .int .i64 t228] 30 (0, 0))) := ⟨by (with_reducible repeat (first | refine blk_drewN ?_ _ | refine blk_drew ?_ | refine blk_alloc ?_ _)); refine blk_far ?_ NB230_238.out _; (with_reducible repeat (first | refine blk_drewN ?_ _ | refine blk_drew ?_ | refine blk_alloc ?_ _)); refine blk_far ?_ NB230_238.out _; (with_reducible repeat (first | refine blk_drewN ?_ _ | refine blk_drew ?_ | refine blk_alloc ?_ _)); refine blk_far ?_ NB230_238.out _; (with_reducible repeat (first | refine blk_drewN ?_ _ | refine blk_drew ?_ | refine blk_alloc ?_ _)); refine blk_far ?_ NB230_238.out _; (with_reducible repeat (first | refine blk_drewN ?_ _ | refine blk_drew ?_ | refine blk_alloc ?_ _)); refine blk_far ?_ NB230_238.out _; (with_reducible repeat (first | refine blk_drewN ?_ _ | refine blk_drew ?_ | refine blk_alloc ?_ _)); refine blk_far ?_ NB230_238.out _; (with_reducible repeat (first | refine blk_drewN ?_ _ | refine blk_drew ?_ | refine blk_alloc ?_ _)); exact BK230.out⟩
     have n3_ : Aside0 (((((((wx73f71.setCell ⟨gb238, 0, none⟩ (.int .i64 t231)).setCell ⟨gb238, 1, none⟩ (.int .i64 t232)).setCell ⟨gb238, 2, none⟩ (.int .i64 t233)).setCell ⟨gb238, 3, none⟩ (.int .i64 t234)).setCell ⟨gb238, 4, none⟩ (.int .i64 t235)).setCell ⟨gb238, 5, none⟩ (.int .i64 t236)).heap[gb238]? = some (.cells #[.int .i64 t231, .int .i64 t232, .int .i64 t233, .int .i64 t234, .int .i64 t235, .int .i64 t236] 30 (0, 0))) := ⟨by (with_reducible repeat (first | refine blk_drewN ?_ _ | refine blk_drew ?_ | refine blk_alloc ?_ _)); refine blk_put (cs := #[.int .i64 t231, .int .i64 t232, .int .i64 t233, .int .i64 t234, .int .i64 t235, .int .i64 0]) ?_ 5 _ rfl; (with_reducible repeat (first | refine blk_drewN ?_ _ | refine blk_drew ?_ | refine blk_alloc ?_ _)); refine blk_put (cs := #[.int .i64 t231, .int .i64 t232, .int .i64 t233, .int .i64 t234, .int .i64 0, .int .i64 0]) ?_ 4 _ rfl; (with_reducible repeat (first | refine blk_drewN ?_ _ | refine blk_drew ?_ | refine blk_alloc ?_ _)); refine blk_put (cs := #[.int .i64 t231, .int .i64 t232, .int .i64 t233, .int .i64 0, .int .i64 0, .int .i64 0]) ?_ 3 _ rfl; (with_reducible repeat (first | refine blk_drewN ?_ _ | refine blk_drew ?_ | refine blk_alloc ?_ _)); refine blk_put (cs := #[.int .i64 t231, .int .i64 t232, .int .i64 0, .int .i64 0, .int .i64 0, .int .i64 0]) ?_ 2 _ rfl; (with_reducible repeat (first | refine blk_drewN ?_ _ | refine blk_drew ?_ | refine blk_alloc ?_ _)); refine blk_put (cs := #[.int .i64 t231, .int .i64 0, .int .i64 0, .int .i64 0, .int .i64 0, .int .i64 0]) ?_ 1 _ rfl; (with_reducible repeat (first | refine blk_drewN ?_ _ | refine blk_drew ?_ | refine blk_alloc ?_ _)); refine blk_put (cs := #[.int .i64 0, .int .i64 0, .int .i64 0, .int .i64 0, .int .i64 0, .int .i64 0]) ?_ 0 _ rfl; (with_reducible repeat (first | refine blk_drewN ?_ _ | refine blk_drew ?_ | refine blk_alloc ?_ _)); exact BK238.out⟩
     have n4_ : Aside0 (Below w.heap.size w ((((((wx73f71.setCell ⟨gb238, 0, none⟩ (.int .i64 t231)).setCell ⟨gb238, 1, none⟩ (.int .i64 t232)).setCell ⟨gb238, 2, none⟩ (.int .i64 t233)).setCell ⟨gb238, 3, none⟩ (.int .i64 t234)).setCell ⟨gb238, 4, none⟩ (.int .i64 t235)).setCell ⟨gb238, 5, none⟩ (.int .i64 t236))) := ⟨by repeat (first | (with_reducible first | exact HB.out | apply below_alloc | apply pw_below_drewN | apply below_drew1 | refine below_set ?_ GE216.out | refine below_set ?_ GE230.out | refine below_set ?_ GE238.out) | exact HB.out)⟩
     (try clear HO220)
     (try clear BK216)
     (try clear BK230)
     (try clear BK238)
     (try clear HB)
     generalize ((((((wx73f71.setCell ⟨gb238, 0, none⟩ (.int .i64 t231)).setCell ⟨gb238, 1, none⟩ (.int .i64 t232)).setCell ⟨gb238, 2, none⟩ (.int .i64 t233)).setCell ⟨gb238, 3, none⟩ (.int .i64 t234)).setCell ⟨gb238, 4, none⟩ (.int .i64 t235)).setCell ⟨gb238, 5, none⟩ (.int .i64 t236)) = wza1 at n0_ n1_ n2_ n3_ n4_ ⊢
     have HO220 := n0_
     have BK216 := n1_
     have BK230 := n2_
     have BK238 := n3_
     have HB := n4_
     clear n0_ n1_ n2_ n3_ n4_
     have n0_ := Aside0.mk (Kd.R_drew HO220.out)
     have n1_ := Aside0.mk (blk_drew BK216.out)
     have n2_ := Aside0.mk (blk_drew BK230.out)
     have n3_ := Aside0.mk (blk_drew BK238.out)
     have n4_ := Aside0.mk (below_drew1 HB.out)
     clear HO220
     clear BK216
     clear BK230
     clear BK238
     clear HB
     have HO220 := n0_
     have BK216 := n1_
     have BK230 := n2_
     have BK238 := n3_
     have HB := n4_
     clear n0_ n1_ n2_ n3_ n4_
     refine start_ (n := 16) (S := fun w' => w'.cell? ⟨gb230, 0, none⟩ = some (.int .i64 t223) ∧ w'.cell? ⟨gb230, 1, none⟩ = some (.int .i64 t224) ∧ w'.cell? ⟨gb230, 2, none⟩ = some (.int .i64 t225) ∧ w'.cell? ⟨gb230, 3, none⟩ = some (.int .i64 t226) ∧ w'.cell? ⟨gb230, 4, none⟩ = some (.int .i64 t227) ∧ w'.cell? ⟨gb230, 5, none⟩ = some (.int .i64 t228) ∧ w'.cell? ⟨gb216, 0, none⟩ = some (.int .i64 a1_0) ∧ w'.cell? ⟨gb216, 1, none⟩ = some (.int .i64 a1_1)) (ds := [12, 15]) #[false, false, false, false, false, false, false, false, false, false, false, false, false, false, false, false] (by kernel_rfl) rfl rfl ⟨(blk_cell BK230.out 0).trans rfl, (blk_cell BK230.out 1).trans rfl, (blk_cell BK230.out 2).trans rfl, (blk_cell BK230.out 3).trans rfl, (blk_cell BK230.out 4).trans rfl, (blk_cell BK230.out 5).trans rfl, (blk_cell BK216.out 0).trans rfl, (blk_cell BK216.out 1).trans rfl⟩ (fun hHeld => ?_); refine with_tabW skywaykeep1_TubeShifts.tab9 skywaykeep1_TubeShifts.bits9 (fun HT_ HW_ => ?_)
     generalize wza1.drew = wza2 at HO220 BK216 BK230 BK238 HB hHeld ⊢
     refine pure_ (i := 0) (N := some 53) (v := ?_) (a' := ?_) #[true, false, false, false, false, false, false, false, false, false, false, false, false, false, false, false] rfl rfl (any_of HT_.out (by kernel_rfl)) (fun _ _ _ h => h) (Or.inl ⟨by rfl, ?_⟩) ?_ ?_
     rotate_left
     · intro w'
       go_simp
       with_reducible rfl
     rotate_left
     · simp only [Act.put, List.setIfInBounds_toArray, List.set_cons_zero, List.set_cons_succ, i64_w, i32_w]
       rfl
     refine pure_ (i := 1) (N := some 54) (v := ?_) (a' := ?_) #[true, true, false, false, false, false, false, false, false, false, false, false, false, false, false, false] rfl rfl (any_of HT_.out (by kernel_rfl)) (fun _ _ _ h => h) (Or.inl ⟨by rfl, ?_⟩) ?_ ?_
     rotate_left
     · intro w'
       go_simp
       with_reducible rfl
     rotate_left
     · simp only [Act.put, List.setIfInBounds_toArray, List.set_cons_zero, List.set_cons_succ, i64_w, i32_w]
       rfl
     refine pure_ (i := 5) (N := some 58) (v := ?_) (a' := ?_) #[true, true, false, false, false, true, false, false, false, false, false, false, false, false, false, false] rfl rfl (any_of HT_.out (by kernel_rfl)) (fun _ _ _ h => h) (Or.inl ⟨by rfl, ?_⟩) ?_ ?_
     rotate_left
     · intro w'
       go_simp
       with_reducible rfl
     rotate_left
     · simp only [Act.put, List.setIfInBounds_toArray, List.set_cons_zero, List.set_cons_succ, i64_w, i32_w]
       rfl
     refine pure_ (i := 6) (N := some 59) (v := ?_) (a' := ?_) #[true, true, false, false, false, true, true, false, false, false, false, false, false, false, false, false] rfl rfl (any_of HT_.out (by kernel_rfl)) (fun _ _ _ h => h) (Or.inl ⟨by rfl, ?_⟩) ?_ ?_
     rotate_left
     · intro w'
       go_simp
       with_reducible rfl
     rotate_left
     · simp only [Act.put, List.setIfInBounds_toArray, List.set_cons_zero, List.set_cons_succ, i64_w, i32_w]
       rfl
     refine pure_ (i := 8) (N := some 61) (v := ?_) (a' := ?_) #[true, true, false, false, false, true, true, false, true, false, false, false, false, false, false, false] rfl rfl (any_of HT_.out (by kernel_rfl)) (fun _ _ _ h => h) (Or.inl ⟨by rfl, ?_⟩) ?_ ?_
     rotate_left
     · intro w'
       go_simp
       with_reducible rfl
     rotate_left
     · simp only [Act.put, List.setIfInBounds_toArray, List.set_cons_zero, List.set_cons_succ, i64_w, i32_w]
       rfl
     refine take_ (i := 2) (N := some 55) (v := ?_) (a' := ?_) #[true, true, true, false, false, true, true, false, true, false, false, false, false, false, false, false] rfl rfl (take_ofW HT_.out HW_.out (by kernel_rfl)) (fun _ _ _ h => h) (Or.inl ⟨by rfl, ?_⟩) hHeld ?_ ?_
     rotate_left
     · rintro w' ⟨s0, s1, s2, s3, s4, s5, s6, s7⟩
       go_simp
       with_reducible rfl
     rotate_left
     · simp only [Act.put, List.setIfInBounds_toArray, List.set_cons_zero, List.set_cons_succ, i64_w, i32_w]
       rfl
     refine take_ (i := 3) (N := some 56) (v := ?_) (a' := ?_) #[true, true, true, true, false, true, true, false, true, false, false, false, false, false, false, false] rfl rfl (take_ofW HT_.out HW_.out (by kernel_rfl)) (fun _ _ _ h => h) (Or.inl ⟨by rfl, ?_⟩) hHeld ?_ ?_
     rotate_left
     · rintro w' ⟨s0, s1, s2, s3, s4, s5, s6, s7⟩
       go_simp
       with_reducible rfl
     rotate_left
     · simp only [Act.put, List.setIfInBounds_toArray, List.set_cons_zero, List.set_cons_succ, i64_w, i32_w]
       rfl
     refine take_ (i := 7) (N := some 60) (v := ?_) (a' := ?_) #[true, true, true, true, false, true, true, true, true, false, false, false, false, false, false, false] rfl rfl (take_ofW HT_.out HW_.out (by kernel_rfl)) (fun _ _ _ h => h) (Or.inl ⟨by rfl, ?_⟩) hHeld ?_ ?_
     rotate_left
     · rintro w' ⟨s0, s1, s2, s3, s4, s5, s6, s7⟩
       go_simp
       with_reducible rfl
     rotate_left
     · simp only [Act.put, List.setIfInBounds_toArray, List.set_cons_zero, List.set_cons_succ, i64_w, i32_w]
       rfl
     refine pure_ (i := 9) (N := some 62) (v := ?_) (a' := ?_) #[true, true, true, true, false, true, true, true, true, true, false, false, false, false, false, false] rfl rfl (any_of HT_.out (by kernel_rfl)) (fun _ _ _ h => h) (Or.inl ⟨by rfl, ?_⟩) ?_ ?_
     rotate_left
     · intro w'
       go_simp
       with_reducible rfl
     rotate_left
     · simp only [Act.put, List.setIfInBounds_toArray, List.set_cons_zero, List.set_cons_succ, i64_w, i32_w]
       rfl
     refine one_ (i := 4) (N := some 57) #[true, true, true, true, true, true, true, true, true, true, false, false, false, false, false, false] rfl rfl (one_of HT_.out (by kernel_rfl)) (by decide) (fun K hK => ?_)
     refine goes_ Try.func24 (by kernel_rfl) rfl #[.agg #[.int .i64 t224, .int .i64 t225], .agg #[.int .i64 a1_0, .int .i64 a1_1]] (by rfl) rfl rfl (by (try simp only [List.map_toArray, List.map_cons, List.map_nil]); first | done | rfl | (simp only [List.length_drop, List.length_take]; rfl)) ?_
     with_reducible refine (plane_Add.calls t224 t225 a1_0 a1_1 t239 t240 _ A12.out).mono ?_
     rintro e wza3 ⟨rfl, hb⟩
     refine ⟨_, rfl, ?_⟩
     have n0_ := Aside0.mk (Kd.R_below (by (with_reducible repeat (first | apply Kd.R_alloc | apply Kd.R_drewN | apply Kd.R_drew)); exact HO220.out) hb)
     have n1_ := Aside0.mk (blk_below (g := gb216) (o := .cells #[.int .i64 a1_0, .int .i64 a1_1] 26 (0, 0)) (by (with_reducible repeat (first | refine blk_drewN ?_ _ | refine blk_drew ?_ | refine blk_alloc ?_ _)); exact BK216.out) hb)
     have n2_ := Aside0.mk (blk_below (g := gb230) (o := .cells #[.int .i64 t223, .int .i64 t224, .int .i64 t225, .int .i64 t226, .int .i64 t227, .int .i64 t228] 30 (0, 0)) (by (with_reducible repeat (first | refine blk_drewN ?_ _ | refine blk_drew ?_ | refine blk_alloc ?_ _)); exact BK230.out) hb)
     have n3_ := Aside0.mk (blk_below (g := gb238) (o := .cells #[.int .i64 t231, .int .i64 t232, .int .i64 t233, .int .i64 t234, .int .i64 t235, .int .i64 t236] 30 (0, 0)) (by (with_reducible repeat (first | refine blk_drewN ?_ _ | refine blk_drew ?_ | refine blk_alloc ?_ _)); exact BK238.out) hb)
     have n4_ := Aside0.mk (below_step (by repeat (first | (with_reducible first | exact HB.out | apply below_alloc | apply pw_below_drewN | apply below_drew1 | refine below_set ?_ GE216.out | refine below_set ?_ GE230.out | refine below_set ?_ GE238.out) | exact HB.out)) hb)
     clear HO220
     clear BK216
     clear BK230
     clear BK238
     clear HB
     have HO220 := n0_
     have BK216 := n1_
     have BK230 := n2_
     have BK238 := n3_
     have HB := n4_
     clear n0_ n1_ n2_ n3_ n4_
     (try clear hb)
     (try clear hb2)
     (try clear hk)
     (try clear hi)
     refine hK.out _ _ ⟨(blk_cell BK230.out 0).trans rfl, (blk_cell BK230.out 1).trans rfl, (blk_cell BK230.out 2).trans rfl, (blk_cell BK230.out 3).trans rfl, (blk_cell BK230.out 4).trans rfl, (blk_cell BK230.out 5).trans rfl, (blk_cell BK216.out 0).trans rfl, (blk_cell BK216.out 1).trans rfl⟩ (fun hHeld => ?_)
     clear hK K
     refine norm_ (a' := ?_) ?_ ?_
     rotate_left
     · show Act.put _ (some 57) _ = _
       simp only [Act.put, List.setIfInBounds_toArray, List.set_cons_zero, List.set_cons_succ, i64_w, i32_w]
       rfl
     refine pure_ (i := 10) (N := some 63) (v := ?_) (a' := ?_) #[true, true, true, true, true, true, true, true, true, true, true, false, false, false, false, false] rfl rfl (any_of HT_.out (by kernel_rfl)) (fun _ _ _ h => h) (Or.inl ⟨by rfl, ?_⟩) ?_ ?_
     rotate_left
     · intro w'
       go_simp
       with_reducible rfl
     rotate_left
     · simp only [Act.put, List.setIfInBounds_toArray, List.set_cons_zero, List.set_cons_succ, i64_w, i32_w]
       rfl
     refine pure_ (i := 11) (N := some 64) (v := ?_) (a' := ?_) #[true, true, true, true, true, true, true, true, true, true, true, true, false, false, false, false] rfl rfl (any_of HT_.out (by kernel_rfl)) (fun _ _ _ h => h) (Or.inl ⟨by rfl, ?_⟩) ?_ ?_
     rotate_left
     · intro w'
       go_simp
       with_reducible rfl
     rotate_left
     · simp only [Act.put, List.setIfInBounds_toArray, List.set_cons_zero, List.set_cons_succ, i64_w, i32_w]
       rfl
     refine last_ (i := 12) (N := none) #[true, true, true, true, true, true, true, true, true, true, true, true, true, false, false, false] rfl rfl (one_of HT_.out (by kernel_rfl)) (by decide) (fun K hK => ?_)
     have hsza1 : wza3.cell? ⟨gb230, 1, none⟩ = some (.int .i64 t224) := (blk_cell BK230.out 1).trans rfl
     have hfsza1 := blk_frozen BK230.out 1
     have hnsza1 := NB216_230.out
     have hnsza2 := NB238_230.out
     have hmsza1 := NB230_216.out
     have hmsza2 := NB230_238.out
     have hsza2 : wza3.cell? ⟨gb230, 2, none⟩ = some (.int .i64 t225) := (blk_cell BK230.out 2).trans rfl
     have hfsza2 := blk_frozen BK230.out 2
     have hnsza3 := NB216_230.out
     have hnsza4 := NB238_230.out
     have hmsza3 := NB230_216.out
     have hmsza4 := NB230_238.out
     (with_reducible refine skip_ (w1 := ?_) ?hA_ ?hB_ ?_ ?_); (case hA_ => rfl); (case hB_ => rfl)
     rotate_left
     · go_simp
       rfl
     refine hK.out _ _ ?_
     clear hK K
     refine pure_ (i := 13) (N := some 65) (v := ?_) (a' := ?_) #[true, true, true, true, true, true, true, true, true, true, true, true, true, true, false, false] rfl rfl (any_of HT_.out (by kernel_rfl)) (fun _ _ _ h => h) (Or.inl ⟨by rfl, ?_⟩) ?_ ?_
     rotate_left
     · intro w'
       go_simp
       with_reducible rfl
     rotate_left
     · simp only [Act.put, List.setIfInBounds_toArray, List.set_cons_zero, List.set_cons_succ, i64_w, i32_w]
       rfl
     refine pure_ (i := 14) (N := some 66) (v := ?_) (a' := ?_) #[true, true, true, true, true, true, true, true, true, true, true, true, true, true, true, false] rfl rfl (any_of HT_.out (by kernel_rfl)) (fun _ _ _ h => h) (Or.inl ⟨by rfl, ?_⟩) ?_ ?_
     rotate_left
     · intro w'
       go_simp
       with_reducible rfl
     rotate_left
     · simp only [Act.put, List.setIfInBounds_toArray, List.set_cons_zero, List.set_cons_succ, i64_w, i32_w]
       rfl
     refine last_ (i := 15) (N := none) #[true, true, true, true, true, true, true, true, true, true, true, true, true, true, true, true] rfl rfl (one_of HT_.out (by kernel_rfl)) (by decide) (fun K hK => ?_)
     have hsza3 : wza3.cell? ⟨gb230, 0, none⟩ = some (.int .i64 t223) := (blk_cell BK230.out 0).trans rfl
     have hfsza3 := blk_frozen BK230.out 0
     have hnsza5 := NB216_230.out
     have hnsza6 := NB238_230.out
     have hmsza5 := NB230_216.out
     have hmsza6 := NB230_238.out
     (with_reducible refine skip_ (w1 := ?_) ?hA_ ?hB_ ?_ ?_); (case hA_ => rfl); (case hB_ => rfl)
     rotate_left
     · go_simp
       rfl
     refine hK.out _ _ ?_
     clear hK K
     refine done_ (done_of HT_.out (by kernel_rfl)) ?_
     first
      | clear hm1_0
        have hczza1 : wza3.cell? ⟨gb230, 0, none⟩ = some (.int .i64 t223) := (blk_cell BK230.out 0).trans rfl
        have hczza2 : wza3.cell? ⟨gb230, 1, none⟩ = some (.int .i64 t224) := (blk_cell BK230.out 1).trans rfl
        have hczza3 : wza3.cell? ⟨gb230, 2, none⟩ = some (.int .i64 t225) := (blk_cell BK230.out 2).trans rfl
        have hczza4 : wza3.cell? ⟨gb230, 3, none⟩ = some (.int .i64 t226) := (blk_cell BK230.out 3).trans rfl
        have hczza5 : wza3.cell? ⟨gb230, 4, none⟩ = some (.int .i64 t227) := (blk_cell BK230.out 4).trans rfl
        have hczza6 : wza3.cell? ⟨gb230, 5, none⟩ = some (.int .i64 t228) := (blk_cell BK230.out 5).trans rfl
        have hfzza1 := blk_frozen BK230.out 0
        have hfzza2 := blk_frozen BK230.out 1
        have hfzza3 := blk_frozen BK230.out 2
        have hfzza4 := blk_frozen BK230.out 3
        have hfzza5 := blk_frozen BK230.out 4
        have hfzza6 := blk_frozen BK230.out 5
        have hczza7 : wza3.cell? ⟨gb238, 0, none⟩ = some (.int .i64 t231) := (blk_cell BK238.out 0).trans rfl
        have hczza8 : wza3.cell? ⟨gb238, 1, none⟩ = some (.int .i64 t232) := (blk_cell BK238.out 1).trans rfl
        have hczza9 : wza3.cell? ⟨gb238, 2, none⟩ = some (.int .i64 t233) := (blk_cell BK238.out 2).trans rfl
        have hczza10 : wza3.cell? ⟨gb238, 3, none⟩ = some (.int .i64 t234) := (blk_cell BK238.out 3).trans rfl
        have hczza11 : wza3.cell? ⟨gb238, 4, none⟩ = some (.int .i64 t235) := (blk_cell BK238.out 4).trans rfl
        have hczza12 : wza3.cell? ⟨gb238, 5, none⟩ = some (.int .i64 t236) := (blk_cell BK238.out 5).trans rfl
        have hfzza7 := blk_frozen BK238.out 0
        have hfzza8 := blk_frozen BK238.out 1
        have hfzza9 := blk_frozen BK238.out 2
        have hfzza10 := blk_frozen BK238.out 3
        have hfzza11 := blk_frozen BK238.out 4
        have hfzza12 := blk_frozen BK238.out 5
        try go_wp2
        go_ret
        exact ⟨by first | rfl | (simp [errW_none, errW_some] <;> rfl) | (simp [*, errW_none, errW_some] <;> rfl), by repeat (first | (with_reducible first | exact HB.out | apply below_alloc | apply pw_below_drewN | apply below_drew1 | refine below_set ?_ GE216.out | refine below_set ?_ GE230.out | refine below_set ?_ GE238.out) | exact HB.out)⟩
      | clear hm1_1
        try go_wp2
        go_ret
        exact ⟨by first | rfl | (simp [errW_none, errW_some] <;> rfl) | (simp [*, errW_none, errW_some] <;> rfl), by repeat (first | (with_reducible first | exact HB.out | apply below_alloc | apply pw_below_drewN | apply below_drew1 | refine below_set ?_ GE216.out | refine below_set ?_ GE230.out | refine below_set ?_ GE238.out) | exact HB.out)⟩
   | clear hm1_2
     go_wp2_with (first | ((with_reducible refine gate_dst (N := 5) rfl ?_); refine box_event ?hg (N := 5) ?hd (cs := #[.int .i64 a1_0, .int .i64 a1_1]) (t := 26) ?hr ?_; (case hd => rfl); (case hg => rfl); (case hr => first | (go_simp; done) | (go_simp; rfl)); intro gb216 hg wxd7dc1 hbox hb; have n0_ := Aside0.mk (below_step (by repeat (first | (with_reducible first | exact HB.out | apply below_alloc | apply pw_below_drewN | apply below_drew1) | exact HB.out)) hb); have n1_ := Aside0.mk (hbox); have n2_ := Aside0.mk ((by rw [hg]; exact (below_size (by repeat (first | (with_reducible first | exact HB.out | apply below_alloc | apply pw_below_drewN | apply below_drew1) | exact HB.out))) : w.heap.size ≤ gb216)); have n3_ := Aside0.mk ((by rw [hg]; exact (below_size (by repeat (first | (with_reducible first | exact HB.out | apply below_alloc | apply pw_below_drewN | apply below_drew1) | exact HB.out))) : w.heap.size ≤ gb216)); clear HB; have HB := n0_; have BK216 := n1_; have GW216 := n2_; have GE216 := n3_; clear n0_ n1_ n2_ n3_; clear hb hbox hg) | ((with_reducible refine gate_callee (f := 15) rfl ?_); refine goesL_ (some 15) rfl rfl Try.func15 (by kernel_rfl) rfl #[] rfl (by (try simp only [List.map_toArray, List.map_cons, List.map_nil]); first | done | rfl | (simp only [List.length_drop, List.length_take]; rfl)) ?_; (with_reducible refine (skywaykeep1_tubeWorks.calls k  true _ A5.out).mono ?_); rintro e wx2c7e1 ⟨rfl, hb⟩; refine ⟨_, rfl, ?_⟩; have n0_ := Aside0.mk (blk_below (g := gb216) (o := .cells #[.int .i64 a1_0, .int .i64 a1_1] 26 (0, 0)) (by (with_reducible repeat (first | refine blk_drewN ?_ _ | refine blk_drew ?_ | refine blk_alloc ?_ _)); exact BK216.out) hb); have n1_ := Aside0.mk (below_step (by repeat (first | (with_reducible first | exact HB.out | apply below_alloc | apply pw_below_drewN | apply below_drew1 | refine below_set ?_ GE216.out) | exact HB.out)) hb); clear BK216; clear HB; have BK216 := n0_; have HB := n1_; clear n0_ n1_; (try clear hb); (try clear hb2); (try clear hk); (try clear hi); have hczx2c7e1 : wx2c7e1.cell? ⟨gb216, 0, none⟩ = some (.int .i64 a1_0) := (blk_cell BK216.out 0).trans rfl; have hczx2c7e2 : wx2c7e1.cell? ⟨gb216, 1, none⟩ = some (.int .i64 a1_1) := (blk_cell BK216.out 1).trans rfl; have hfzx2c7e1 := blk_frozen BK216.out 0; have hfzx2c7e2 := blk_frozen BK216.out 1) | ((with_reducible refine gate_callee (f := 15) rfl ?_); refine goesL_ (some 15) rfl rfl Try.func15 (by kernel_rfl) rfl #[] rfl (by (try simp only [List.map_toArray, List.map_cons, List.map_nil]); first | done | rfl | (simp only [List.length_drop, List.length_take]; rfl)) ?_; (with_reducible refine (skywaykeep1_tubeWorks.calls k  false _ A5.out).mono ?_); rintro e wxee911 ⟨rfl, hb⟩; refine ⟨_, rfl, ?_⟩; have n0_ := Aside0.mk (blk_below (g := gb216) (o := .cells #[.int .i64 a1_0, .int .i64 a1_1] 26 (0, 0)) (by (with_reducible repeat (first | refine blk_drewN ?_ _ | refine blk_drew ?_ | refine blk_alloc ?_ _)); exact BK216.out) hb); have n1_ := Aside0.mk (below_step (by repeat (first | (with_reducible first | exact HB.out | apply below_alloc | apply pw_below_drewN | apply below_drew1 | refine below_set ?_ GE216.out) | exact HB.out)) hb); clear BK216; clear HB; have BK216 := n0_; have HB := n1_; clear n0_ n1_; (try clear hb); (try clear hb2); (try clear hk); (try clear hi)) | ((with_reducible refine gate_callee (f := 23) rfl ?_); refine goesL_ (some 21) rfl rfl Try.func23 (by kernel_rfl) rfl #[.slice A0 l0.length c0, .agg #[.int .i64 a1_0, .int .i64 a1_1], .int .i64 a2] rfl (by (try simp only [List.map_toArray, List.map_cons, List.map_nil]); first | done | rfl | (simp only [List.length_drop, List.length_take]; rfl)) ?_; (with_reducible refine (tube_Shift.calls k _ _ l0 a1_0 a1_1 a2 t218 t221 _ ?side1 ?side2 A7.out).mono ?_); (case side1 => repeat (first | exact (Kd.C_below HR0.out HB.out) | (with_reducible refine Kd.C_alloc ?_ _) | (with_reducible refine Kd.C_drewN ?_ _) | (with_reducible refine Kd.C_drew ?_))); (case side2 => exact HC0.out); rintro e wx9aac1 ⟨v219, rfl, hox9aac1, hb⟩; refine ⟨_, rfl, ?_⟩; have n0_ := Aside0.mk (Kd.R_lower hox9aac1 (below_size (by repeat (first | (with_reducible first | exact HB.out | apply below_alloc | apply pw_below_drewN | apply below_drew1 | refine below_set ?_ GE216.out) | exact HB.out)))); have n1_ := Aside0.mk (blk_below (g := gb216) (o := .cells #[.int .i64 a1_0, .int .i64 a1_1] 26 (0, 0)) (by (with_reducible repeat (first | refine blk_drewN ?_ _ | refine blk_drew ?_ | refine blk_alloc ?_ _)); exact BK216.out) hb); have n2_ := Aside0.mk (below_step (by repeat (first | (with_reducible first | exact HB.out | apply below_alloc | apply pw_below_drewN | apply below_drew1 | refine below_set ?_ GE216.out) | exact HB.out)) hb); clear BK216; clear HB; have HO220 := n0_; have BK216 := n1_; have HB := n2_; clear n0_ n1_ n2_; (try clear hb); (try clear hb2); (try clear hk); (try clear hi); (try clear hox9aac1); obtain ⟨Aox9aac1, cox9aac1, eox9aac1⟩ := Kd.R_slice HO220.out; subst eox9aac1))
     go_ret
     exact ⟨by first | rfl | (simp [errW_none, errW_some] <;> rfl) | (simp [*, errW_none, errW_some] <;> rfl), by repeat (first | (with_reducible first | exact HB.out | apply below_alloc | apply pw_below_drewN | apply below_drew1 | refine below_set ?_ GE216.out) | exact HB.out)⟩

/-- What is told of a value of struct type 26 that came in. -/
def good26 (x : S26) : Prop := ((Lit.int .i64 x.f0).wf = true) ∧ (Lit.int .i64 x.f1).wf = true
/-- What is told of a value of struct type 28 that came in. -/
def good28 (x : S28) : Prop := ((Lit.int .i64 x.f0).wf = true) ∧ (good26 x.f1) ∧ (Lit.int .i64 x.f2).wf = true
/-- What is told of a value of struct type 30 that came in. -/
def good30 (x : S30) : Prop := (good28 x.f0) ∧ ((Lit.int .i64 x.f1).wf = true) ∧ (Lit.int .i64 x.f2).wf = true
/-- THE ONE PURE STATEMENT of skywaykeep1_TubeShifts. -/
def skywaykeep1_TubeShifts.Pure : Prop := ∀ (l0 : List (S30)) (a1_0 : Int) (a1_1 : Int) (a2 : Int) (a3 : Int), (l0.length * 48 ≤ 140737488351232 ∧ ∀ y0 ∈ l0, good30 y0) → ((Lit.int .i64 a1_0).wf = true) → ((Lit.int .i64 a1_1).wf = true) → ((Lit.int .i64 a2).wf = true) → ((Lit.int .i64 a3).wf = true) → ∃ k, skywaykeep1_TubeShifts.f k l0 a1_0 a1_1 a2 a3 = some true

end Go.Proofs.Yteaddpieonkboab.PTubeShifts
