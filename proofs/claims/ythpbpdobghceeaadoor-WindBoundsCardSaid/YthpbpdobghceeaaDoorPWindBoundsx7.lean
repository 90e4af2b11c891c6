/- Made by a program of this session (wip/tools/myprint.py, over the kit's printer): that the Go functions answer as the Lean functions printed beside them. -/
import Derived.Test.YthpbpdobghceeaaDoorPWindBoundsx0
import Derived.Test.YthpbpdobghceeaaDoorPWindBoundsx4
import Derived.Test.YthpbpdobghceeaaDoorPWindBoundsx6
namespace Go.Proofs.YthpbpdobghceeaaDoor.PWindBounds
open Go.RowKit Go.Proofs.YthpbpdobghceeaaDoorW.PrintWords Go.Proofs.YthpbpdobghceeaaDoorW.PrintLast Go.Proofs.YthpbpdobghceeaaDoorW.PrintMore
attribute [local go_sem] max2_int min2_int max_two min_two max_three min_three max_four min_four   -- for this text's walks alone
set_option linter.unusedVariables false
set_option linter.unusedSimpArgs false

/-! ### skywaykeep1_WindBounds: function 8 -/
def skywaykeep1_WindBounds.j0 : Nat → Int → Int → Int → Int → Int → Int → Int → Int → Int → Option (Bool)
  | 0, _, _, _, _, _, _, _, _, _ => none
  | k + 1, x0, x1, x7, x8, x179000, x179001, x179002, x179003, x179004 => (wind_Ground.f k x0 x1 x179000 x179001 x179002 x179003 x179004).bind fun bt179 => ((wind_Ground.f k x0 (wrap64 (x1 + 2048)) x179000 x179001 x179002 x179003 x179004).bind fun bt182 => (if bt179.2.2 = 0 then (if bt182.2.2 = 0 then (if bt179.1 < x7 then (some false) else (if bt179.2.1 > x8 then (some false) else (if x7 > x8 then (some false) else (if (wrap64 (bt179.2.1 - bt179.1)) > 1 then (some false) else (if bt179.1 = 1 then (some true) else (if bt182.1 = 1 then (some true) else (if (wrap64 (bt179.1 + bt182.2.1)) = (wrap64 (2 * x0)) then (some ((wrap64 (bt179.2.1 + bt182.1)) == (wrap64 (2 * x0)))) else (some false)))))))) else (some false)) else (some false)))
def skywaykeep1_WindBounds.f (k : Nat) (a0 : Int) (a1 : Int) (a2_0 : Int) (a2_1 : Int) (a2_2 : Int) (a2_3 : Int) (a2_4 : Int) : Option (Bool) := (skywaykeep1_windWorks.f k).bind fun t174 => (if t174 = true then ((wind_Ground.f k a0 a1 a2_0 a2_1 a2_2 a2_3 a2_4).bind fun bt175 => (if bt175.2.2 = 0 then (skywaykeep1_WindBounds.j0 k a0 a1 bt175.1 bt175.2.1 a2_0 a2_1 a2_2 a2_3 0) else (if bt175.1 = 0 then (some (bt175.2.1 == 0)) else (some false)))) else (some false))
theorem skywaykeep1_WindBounds.mono_l : ∀ k, (∀ y0 y1 y2 y3 y4 y5 y6 y7 y8, LeO (skywaykeep1_WindBounds.j0 k y0 y1 y2 y3 y4 y5 y6 y7 y8) (skywaykeep1_WindBounds.j0 (k + 1) y0 y1 y2 y3 y4 y5 y6 y7 y8))
  | 0 => fun _ _ _ _ _ _ _ _ _ r h => by simp [skywaykeep1_WindBounds.j0] at h
  | k + 1 => by
    have ih0 := skywaykeep1_WindBounds.mono_l k
    · intro y0 y1 y2 y3 y4 y5 y6 y7 y8
      unfold skywaykeep1_WindBounds.j0
      repeat' first
      | (with_reducible exact ih0 _ _ _ _ _ _ _ _ _)
      | (with_reducible exact skywaykeep1_windWorks.mono _)
      | (with_reducible exact wind_Ground.mono _ _ _ _ _ _ _ _)
      | (with_reducible exact LeO.refl _)
      | (with_reducible exact LeO.none _)
      | (with_reducible refine LeO.ite ?_ ?_)
      | (with_reducible refine LeO.bind ?_ (fun _ => ?_))
      | exact ih0 _ _ _ _ _ _ _ _ _
      | exact skywaykeep1_windWorks.mono _
      | exact wind_Ground.mono _ _ _ _ _ _ _ _
      | exact LeO.none _
      | refine LeO.ite ?_ ?_
      | refine LeO.bind ?_ (fun _ => ?_)
theorem skywaykeep1_WindBounds.mono : ∀ a0 a1 a2 a3 a4 a5 a6 k, LeO (skywaykeep1_WindBounds.f k a0 a1 a2 a3 a4 a5 a6) (skywaykeep1_WindBounds.f (k + 1) a0 a1 a2 a3 a4 a5 a6) := by
  intro a0 a1 a2 a3 a4 a5 a6 k
  have ih0 := skywaykeep1_WindBounds.mono_l k
  unfold skywaykeep1_WindBounds.f
  repeat' first
      | (with_reducible exact ih0 _ _ _ _ _ _ _ _ _)
      | (with_reducible exact skywaykeep1_windWorks.mono _)
      | (with_reducible exact wind_Ground.mono _ _ _ _ _ _ _ _)
      | (with_reducible exact LeO.refl _)
      | (with_reducible exact LeO.none _)
      | (with_reducible refine LeO.ite ?_ ?_)
      | (with_reducible refine LeO.bind ?_ (fun _ => ?_))
      | exact ih0 _ _ _ _ _ _ _ _ _
      | exact skywaykeep1_windWorks.mono _
      | exact wind_Ground.mono _ _ _ _ _ _ _ _
      | exact LeO.none _
      | refine LeO.ite ?_ ?_
      | refine LeO.bind ?_ (fun _ => ?_)
set_option maxHeartbeats 8000000 in
set_option maxRecDepth 100000 in
theorem skywaykeep1_WindBounds.calls (k : Nat) (a0 : Int) (a1 : Int) (a2_0 : Int) (a2_1 : Int) (a2_2 : Int) (a2_3 : Int) (a2_4 : Int) (r : Bool) (w : World) (h : skywaykeep1_WindBounds.f k a0 a1 a2_0 a2_1 a2_2 a2_3 a2_4 = some r) (hT0 : Ang.Tab w := by exact Ang.Tab.below hT0 (by repeat (first | (with_reducible first | exact HB.out | apply below_alloc | apply pw_below_drewN | apply below_drew1) | exact HB.out))) :
    Calls Tryd.prog 8 #[.int .i64 a0, .int .i64 a1, .agg #[.int .i64 a2_0, .int .i64 a2_1, .int .i64 a2_2, .int .i64 a2_3, .int .i64 a2_4]] w fun e w' => e = .returned (.bool r) ∧ Below w.heap.size w w' := by
 have hu38 := Tryd.underlying38
 have HB := Aside0.mk (Below.refl w.heap.size w)
 have H : ((skywaykeep1_windWorks.f k).bind fun t174 => (if t174 = true then ((wind_Ground.f k a0 a1 a2_0 a2_1 a2_2 a2_3 a2_4).bind fun bt175 => (if bt175.2.2 = 0 then (skywaykeep1_WindBounds.j0 k a0 a1 bt175.1 bt175.2.1 a2_0 a2_1 a2_2 a2_3 0) else (if bt175.1 = 0 then (some (bt175.2.1 == 0)) else (some false)))) else (some false))) = some r := h
 clear h
 replace H := Option.bind_eq_some_iff.mp H
 obtain ⟨t174, A40, H⟩ := H
 replace H : (if t174 = true then ((wind_Ground.f k a0 a1 a2_0 a2_1 a2_2 a2_3 a2_4).bind fun bt175 => (if bt175.2.2 = 0 then (skywaykeep1_WindBounds.j0 k a0 a1 bt175.1 bt175.2.1 a2_0 a2_1 a2_2 a2_3 0) else (if bt175.1 = 0 then (some (bt175.2.1 == 0)) else (some false)))) else (some false)) = some r := H
 have A4 := Aside0.mk A40
 clear A40
 refine Or.elim (Classical.em (t174 = true)) (fun c5 => ?p2_) (fun c5 => ?n2_)
 case' p2_ =>
  subst c5
  have H1 : ((wind_Ground.f k a0 a1 a2_0 a2_1 a2_2 a2_3 a2_4).bind fun bt175 => (if bt175.2.2 = 0 then (skywaykeep1_WindBounds.j0 k a0 a1 bt175.1 bt175.2.1 a2_0 a2_1 a2_2 a2_3 0) else (if bt175.1 = 0 then (some (bt175.2.1 == 0)) else (some false)))) = some r := by rw [if_pos rfl] at H; exact H
  clear H
  have H := H1
  clear H1
  replace H := Option.bind_eq_some_iff.mp H
  obtain ⟨⟨t175, t176, t177⟩, A60, H⟩ := H
  replace H : (if t177 = 0 then (skywaykeep1_WindBounds.j0 k a0 a1 t175 t176 a2_0 a2_1 a2_2 a2_3 0) else (if t175 = 0 then (some (t176 == 0)) else (some false))) = some r := H
  have A6 := Aside0.mk A60
  clear A60
  refine Or.elim (Classical.em (t177 = 0)) (fun c7 => ?p3_) (fun c7 => ?n3_)
  case' p3_ =>
   rw [if_pos c7] at H
   have c7b0 : (t177 == 0) = true := beq_iff_eq.mpr c7
   have c7b1 : (t177 != 0) = false := bne_eq_false_iff_eq.mpr c7
   clear c7
   have HC8 := Aside0.mk H
   clear H
   have hm1_0 := Aside0.mk trivial
  case' n3_ =>
   rw [if_neg c7] at H
   have c7b0 : (t177 == 0) = false := beq_eq_false_iff_ne.mpr c7
   have c7b1 : (t177 != 0) = true := bne_iff_ne.mpr c7
   refine Or.elim (Classical.em (t175 = 0)) (fun c80 => ?p4_) (fun c80 => ?n4_)
   case' p4_ =>
    rw [if_pos c80] at H
    have c80b0 : (t175 == 0) = true := beq_iff_eq.mpr c80
    have c80b1 : (t175 != 0) = false := bne_eq_false_iff_eq.mpr c80
    clear c80
    have hm1_1 := Aside0.mk trivial
   case' n4_ =>
    rw [if_neg c80] at H
    have c80b0 : (t175 == 0) = false := beq_eq_false_iff_ne.mpr c80
    have c80b1 : (t175 != 0) = true := bne_iff_ne.mpr c80
    have hm1_1 := Aside0.mk trivial
 case' n2_ =>
  replace c5 := Bool.eq_false_iff.mpr c5
  subst c5
  have H1 : (some false) = some r := by rw [if_neg (show ¬ (false = true) by decide)] at H; exact H
  clear H
  have H := H1
  clear H1
  have hm1_1 := Aside0.mk trivial
 all_goals
  first
   | clear hm1_0
     go_enter Tryd.func8, Tryd.ntmps8
     go_upto_region 7 with (first | ((with_reducible refine gate_dst (N := 5) rfl ?_); refine box_event ?hg (N := 5) ?hd (cs := #[.int .i64 a2_0, .int .i64 a2_1, .int .i64 a2_2, .int .i64 a2_3, .int .i64 a2_4]) (t := 38) ?hr ?_; (case hd => rfl); (case hg => rfl); (case hr => first | (go_simp; done) | (go_simp; rfl)); intro gb173 hg wx0bdb1 hbox hb; have n0_ := Aside0.mk (below_step (by repeat (first | (with_reducible first | exact HB.out | apply below_alloc | apply pw_below_drewN | apply below_drew1) | exact HB.out)) hb); have n1_ := Aside0.mk (hbox); have n2_ := Aside0.mk ((by rw [hg]; exact (below_size (by repeat (first | (with_reducible first | exact HB.out | apply below_alloc | apply pw_below_drewN | apply below_drew1) | exact HB.out))) : w.heap.size ≤ gb173)); have n3_ := Aside0.mk ((by rw [hg]; exact (below_size (by repeat (first | (with_reducible first | exact HB.out | apply below_alloc | apply pw_below_drewN | apply below_drew1) | exact HB.out))) : w.heap.size ≤ gb173)); clear HB; have HB := n0_; have BK173 := n1_; have GW173 := n2_; have GE173 := n3_; clear n0_ n1_ n2_ n3_; clear hb hbox hg) | ((with_reducible refine gate_callee (f := 19) rfl ?_); refine goesL_ (some 17) rfl rfl Tryd.func19 (by kernel_rfl) rfl #[] rfl (by (try simp only [List.map_toArray, List.map_cons, List.map_nil]); first | done | rfl | (simp only [List.length_drop, List.length_take]; rfl)) ?_; (with_reducible refine (skywaykeep1_windWorks.calls k  true _ A4.out).mono ?_); rintro e wx06001 ⟨rfl, hb⟩; refine ⟨_, rfl, ?_⟩; have n0_ := Aside0.mk (blk_below (g := gb173) (o := .cells #[.int .i64 a2_0, .int .i64 a2_1, .int .i64 a2_2, .int .i64 a2_3, .int .i64 a2_4] 38 (0, 0)) (by (with_reducible repeat (first | refine blk_drewN ?_ _ | refine blk_drew ?_ | refine blk_alloc ?_ _)); exact BK173.out) hb); have n1_ := Aside0.mk (below_step (by repeat (first | (with_reducible first | exact HB.out | apply below_alloc | apply pw_below_drewN | apply below_drew1 | refine below_set ?_ GE173.out) | exact HB.out)) hb); clear BK173; clear HB; have BK173 := n0_; have HB := n1_; clear n0_ n1_; (try clear hb); (try clear hb2); (try clear hk); (try clear hi); have hczx06001 : wx06001.cell? ⟨gb173, 0, none⟩ = some (.int .i64 a2_0) := (blk_cell BK173.out 0).trans rfl; have hczx06002 : wx06001.cell? ⟨gb173, 1, none⟩ = some (.int .i64 a2_1) := (blk_cell BK173.out 1).trans rfl; have hczx06003 : wx06001.cell? ⟨gb173, 2, none⟩ = some (.int .i64 a2_2) := (blk_cell BK173.out 2).trans rfl; have hczx06004 : wx06001.cell? ⟨gb173, 3, none⟩ = some (.int .i64 a2_3) := (blk_cell BK173.out 3).trans rfl; have hczx06005 : wx06001.cell? ⟨gb173, 4, none⟩ = some (.int .i64 a2_4) := (blk_cell BK173.out 4).trans rfl; have hfzx06001 := blk_frozen BK173.out 0; have hfzx06002 := blk_frozen BK173.out 1; have hfzx06003 := blk_frozen BK173.out 2; have hfzx06004 := blk_frozen BK173.out 3; have hfzx06005 := blk_frozen BK173.out 4) | ((with_reducible refine gate_callee (f := 20) rfl ?_); refine goesL_ (some 23) rfl rfl Tryd.func20 (by kernel_rfl) rfl #[.int .i64 a0, .int .i64 a1, .agg #[.int .i64 a2_0, .int .i64 a2_1, .int .i64 a2_2, .int .i64 a2_3, .int .i64 a2_4]] rfl (by (try simp only [List.map_toArray, List.map_cons, List.map_nil]); first | done | rfl | (simp only [List.length_drop, List.length_take]; rfl)) ?_; (with_reducible refine (wind_Ground.calls k a0 a1 a2_0 a2_1 a2_2 a2_3 a2_4 t175 t176 t177 _ A6.out).mono ?_); rintro e wxc4561 ⟨rfl, hb⟩; refine ⟨_, rfl, ?_⟩; have n0_ := Aside0.mk (blk_below (g := gb173) (o := .cells #[.int .i64 a2_0, .int .i64 a2_1, .int .i64 a2_2, .int .i64 a2_3, .int .i64 a2_4] 38 (0, 0)) (by (with_reducible repeat (first | refine blk_drewN ?_ _ | refine blk_drew ?_ | refine blk_alloc ?_ _)); exact BK173.out) hb); have n1_ := Aside0.mk (below_step (by repeat (first | (with_reducible first | exact HB.out | apply below_alloc | apply pw_below_drewN | apply below_drew1 | refine below_set ?_ GE173.out) | exact HB.out)) hb); clear BK173; clear HB; have BK173 := n0_; have HB := n1_; clear n0_ n1_; (try clear hb); (try clear hb2); (try clear hk); (try clear hi); have hczxc4561 : wxc4561.cell? ⟨gb173, 0, none⟩ = some (.int .i64 a2_0) := (blk_cell BK173.out 0).trans rfl; have hczxc4562 : wxc4561.cell? ⟨gb173, 1, none⟩ = some (.int .i64 a2_1) := (blk_cell BK173.out 1).trans rfl; have hczxc4563 : wxc4561.cell? ⟨gb173, 2, none⟩ = some (.int .i64 a2_2) := (blk_cell BK173.out 2).trans rfl; have hczxc4564 : wxc4561.cell? ⟨gb173, 3, none⟩ = some (.int .i64 a2_3) := (blk_cell BK173.out 3).trans rfl; have hczxc4565 : wxc4561.cell? ⟨gb173, 4, none⟩ = some (.int .i64 a2_4) := (blk_cell BK173.out 4).trans rfl; have hfzxc4561 := blk_frozen BK173.out 0; have hfzxc4562 := blk_frozen BK173.out 1; have hfzxc4563 := blk_frozen BK173.out 2; have hfzxc4564 := blk_frozen BK173.out 3; have hfzxc4565 := blk_frozen BK173.out 4) | ((with_reducible refine gate_dst (N := 10) rfl ?_); refine box_event ?hg (N := 10) ?hd (cs := #[.int .i64 0, .int .i64 0, .int .i64 0, .int .i64 0, .int .i64 0]) (t := 38) ?hr ?_; (case hd => rfl); (case hg => rfl); (case hr => first | (go_simp; done) | (go_simp; rfl)); intro gb178 hg wx5bd31 hbox hb; have n0_ := Aside0.mk (blk_below (g := gb173) (o := .cells #[.int .i64 a2_0, .int .i64 a2_1, .int .i64 a2_2, .int .i64 a2_3, .int .i64 a2_4] 38 (0, 0)) (by (with_reducible repeat (first | refine blk_drewN ?_ _ | refine blk_drew ?_ | refine blk_alloc ?_ _)); exact BK173.out) hb); have n1_ := Aside0.mk (below_step (by repeat (first | (with_reducible first | exact HB.out | apply below_alloc | apply pw_below_drewN | apply below_drew1 | refine below_set ?_ GE173.out) | exact HB.out)) hb); have n2_ := Aside0.mk (hbox); have n3_ := Aside0.mk ((by rw [hg]; exact (below_size (by repeat (first | (with_reducible first | exact HB.out | apply below_alloc | apply pw_below_drewN | apply below_drew1 | refine below_set ?_ GE173.out) | exact HB.out))) : w.heap.size ≤ gb178)); have n4_ := Aside0.mk ((by rw [hg]; exact (below_size (by repeat (first | (with_reducible first | exact HB.out | apply below_alloc | apply pw_below_drewN | apply below_drew1 | refine below_set ?_ GE173.out) | exact HB.out))) : w.heap.size ≤ gb178)); have n5_ := Aside0.mk ((by rw [hg]; exact Nat.ne_of_lt (blk_lt (g := gb173) (o := .cells #[.int .i64 a2_0, .int .i64 a2_1, .int .i64 a2_2, .int .i64 a2_3, .int .i64 a2_4] 38 (0, 0)) (by (with_reducible repeat (first | refine blk_drewN ?_ _ | refine blk_drew ?_ | refine blk_alloc ?_ _)); exact BK173.out)) : gb173 ≠ gb178)); have n6_ := Aside0.mk ((by rw [hg]; exact Nat.ne_of_gt (blk_lt (g := gb173) (o := .cells #[.int .i64 a2_0, .int .i64 a2_1, .int .i64 a2_2, .int .i64 a2_3, .int .i64 a2_4] 38 (0, 0)) (by (with_reducible repeat (first | refine blk_drewN ?_ _ | refine blk_drew ?_ | refine blk_alloc ?_ _)); exact BK173.out)) : gb178 ≠ gb173)); clear BK173; clear HB; have BK173 := n0_; have HB := n1_; have BK178 := n2_; have GW178 := n3_; have GE178 := n4_; have NB173_178 := n5_; have NB178_173 := n6_; clear n0_ n1_ n2_ n3_ n4_ n5_ n6_; clear hb hbox hg; have hnbx5bd31 := NB178_173.out; have hncx5bd31 := NB173_178.out; have hczx5bd31 : wx5bd31.cell? ⟨gb178, 0, none⟩ = some (.int .i64 0) := (blk_cell BK178.out 0).trans rfl; have hczx5bd32 : wx5bd31.cell? ⟨gb178, 1, none⟩ = some (.int .i64 0) := (blk_cell BK178.out 1).trans rfl; have hczx5bd33 : wx5bd31.cell? ⟨gb178, 2, none⟩ = some (.int .i64 0) := (blk_cell BK178.out 2).trans rfl; have hczx5bd34 : wx5bd31.cell? ⟨gb178, 3, none⟩ = some (.int .i64 0) := (blk_cell BK178.out 3).trans rfl; have hczx5bd35 : wx5bd31.cell? ⟨gb178, 4, none⟩ = some (.int .i64 0) := (blk_cell BK178.out 4).trans rfl; have hfzx5bd31 := blk_frozen BK178.out 0; have hfzx5bd32 := blk_frozen BK178.out 1; have hfzx5bd33 := blk_frozen BK178.out 2; have hfzx5bd34 := blk_frozen BK178.out 3; have hfzx5bd35 := blk_frozen BK178.out 4))
     (try simp only [Act.put, List.setIfInBounds_toArray, List.set_cons_zero, List.set_cons_succ])
     go_cut [] (fun wc => ∃ (kq : Nat) (x179004_7 : Int), Aside0 (skywaykeep1_WindBounds.j0 kq a0 a1 t175 t176 a2_0 a2_1 a2_2 a2_3 x179004_7 = some r) ∧ Aside0 (kq ≤ k) ∧ Aside0 (wc.heap[gb173]? = some (.cells #[.int .i64 a2_0, .int .i64 a2_1, .int .i64 a2_2, .int .i64 a2_3, .int .i64 a2_4] 38 (0, 0))) ∧ Aside0 (wc.heap[gb178]? = some (.cells #[.int .i64 a2_0, .int .i64 a2_1, .int .i64 a2_2, .int .i64 a2_3, .int .i64 x179004_7] 38 (0, 0))) ∧ Aside0 (Below w.heap.size w wc))
     case first =>
      have H := HC8.out
      clear HC8
      have H' := Aside0.mk H
      clear H
      have hnbza1 := NB178_173.out
      have hncza1 := NB173_178.out
      have hczza1 : wx5bd31.cell? ⟨gb178, 0, none⟩ = some (.int .i64 0) := (blk_cell BK178.out 0).trans rfl
      have hczza2 : wx5bd31.cell? ⟨gb178, 1, none⟩ = some (.int .i64 0) := (blk_cell BK178.out 1).trans rfl
      have hczza3 : wx5bd31.cell? ⟨gb178, 2, none⟩ = some (.int .i64 0) := (blk_cell BK178.out 2).trans rfl
      have hczza4 : wx5bd31.cell? ⟨gb178, 3, none⟩ = some (.int .i64 0) := (blk_cell BK178.out 3).trans rfl
      have hczza5 : wx5bd31.cell? ⟨gb178, 4, none⟩ = some (.int .i64 0) := (blk_cell BK178.out 4).trans rfl
      have hfzza1 := blk_frozen BK178.out 0
      have hfzza2 := blk_frozen BK178.out 1
      have hfzza3 := blk_frozen BK178.out 2
      have hfzza4 := blk_frozen BK178.out 3
      have hfzza5 := blk_frozen BK178.out 4
      go_wp2
      go_meet
      case rel => exact ⟨_, (0), H', ⟨by first | omega | exact Nat.le_refl _⟩, ⟨by (with_reducible repeat (first | refine blk_drewN ?_ _ | refine blk_drew ?_ | refine blk_alloc ?_ _)); refine blk_far ?_ NB173_178.out _; (with_reducible repeat (first | refine blk_drewN ?_ _ | refine blk_drew ?_ | refine blk_alloc ?_ _)); refine blk_far ?_ NB173_178.out _; (with_reducible repeat (first | refine blk_drewN ?_ _ | refine blk_drew ?_ | refine blk_alloc ?_ _)); refine blk_far ?_ NB173_178.out _; (with_reducible repeat (first | refine blk_drewN ?_ _ | refine blk_drew ?_ | refine blk_alloc ?_ _)); refine blk_far ?_ NB173_178.out _; (with_reducible repeat (first | refine blk_drewN ?_ _ | refine blk_drew ?_ | refine blk_alloc ?_ _)); refine blk_far ?_ NB173_178.out _; (with_reducible repeat (first | refine blk_drewN ?_ _ | refine blk_drew ?_ | refine blk_alloc ?_ _)); refine blk_far ?_ NB173_178.out _; (with_reducible repeat (first | refine blk_drewN ?_ _ | refine blk_drew ?_ | refine blk_alloc ?_ _)); exact BK173.out⟩, ⟨by (with_reducible repeat (first | refine blk_drewN ?_ _ | refine blk_drew ?_ | refine blk_alloc ?_ _)); refine blk_put (cs := #[.int .i64 a2_0, .int .i64 a2_1, .int .i64 a2_2, .int .i64 a2_3, .int .i64 a2_4]) ?_ 4 _ rfl; (with_reducible repeat (first | refine blk_drewN ?_ _ | refine blk_drew ?_ | refine blk_alloc ?_ _)); refine blk_put (cs := #[.int .i64 a2_0, .int .i64 a2_1, .int .i64 a2_2, .int .i64 a2_3, .int .i64 0]) ?_ 4 _ rfl; (with_reducible repeat (first | refine blk_drewN ?_ _ | refine blk_drew ?_ | refine blk_alloc ?_ _)); refine blk_put (cs := #[.int .i64 a2_0, .int .i64 a2_1, .int .i64 a2_2, .int .i64 0, .int .i64 0]) ?_ 3 _ rfl; (with_reducible repeat (first | refine blk_drewN ?_ _ | refine blk_drew ?_ | refine blk_alloc ?_ _)); refine blk_put (cs := #[.int .i64 a2_0, .int .i64 a2_1, .int .i64 0, .int .i64 0, .int .i64 0]) ?_ 2 _ rfl; (with_reducible repeat (first | refine blk_drewN ?_ _ | refine blk_drew ?_ | refine blk_alloc ?_ _)); refine blk_put (cs := #[.int .i64 a2_0, .int .i64 0, .int .i64 0, .int .i64 0, .int .i64 0]) ?_ 1 _ rfl; (with_reducible repeat (first | refine blk_drewN ?_ _ | refine blk_drew ?_ | refine blk_alloc ?_ _)); refine blk_put (cs := #[.int .i64 0, .int .i64 0, .int .i64 0, .int .i64 0, .int .i64 0]) ?_ 0 _ rfl; (with_reducible repeat (first | refine blk_drewN ?_ _ | refine blk_drew ?_ | refine blk_alloc ?_ _)); exact BK178.out⟩, ⟨by repeat (first | (with_reducible first | exact HB.out | apply below_alloc | apply pw_below_drewN | apply below_drew1 | refine below_set ?_ GE173.out | refine below_set ?_ GE178.out) | exact HB.out)⟩⟩
     case rest =>
      clear HC8
      (try clear c1); (try clear p1); (try clear c2); (try clear p2); (try clear c5); (try clear c7); (try clear c7b0); (try clear c7b1); (try clear c8); (try clear c15); (try clear c17); (try clear hczx06001); (try clear hczx06002); (try clear hczx06003); (try clear hczx06004); (try clear hczx06005); (try clear hczxc4561); (try clear hczxc4562); (try clear hczxc4563); (try clear hczxc4564); (try clear hczxc4565); (try clear hczx5bd31); (try clear hczx5bd32); (try clear hczx5bd33); (try clear hczx5bd34); (try clear hczx5bd35); (try clear hczza1); (try clear hczza2); (try clear hczza3); (try clear hczza4); (try clear hczza5); (try clear hfzx06001); (try clear hfzx06002); (try clear hfzx06003); (try clear hfzx06004); (try clear hfzx06005); (try clear hfzxc4561); (try clear hfzxc4562); (try clear hfzxc4563); (try clear hfzxc4564)
      (try clear hfzxc4565); (try clear hfzx5bd31); (try clear hfzx5bd32); (try clear hfzx5bd33); (try clear hfzx5bd34); (try clear hfzx5bd35); (try clear hfzza1); (try clear hfzza2); (try clear hfzza3); (try clear hfzza4); (try clear hfzza5)
      obtain ⟨kq, x179004_7, HA, HJ7, BK173, BK178, HB⟩ := hcut
      cases kq with
      | zero => exact absurd HA.out (by simp [skywaykeep1_WindBounds.j0])
      | succ kj7 =>
       have H := HA.out
       clear HA
       simp only [skywaykeep1_WindBounds.j0] at H
       replace H := Option.bind_eq_some_iff.mp H
       obtain ⟨⟨t179, t180, t181⟩, A190, H⟩ := H
       replace H : ((wind_Ground.f kj7 a0 (wrap64 (a1 + 2048)) a2_0 a2_1 a2_2 a2_3 x179004_7).bind fun bt182 => (if t181 = 0 then (if bt182.2.2 = 0 then (if t179 < t175 then (some false) else (if t180 > t176 then (some false) else (if t175 > t176 then (some false) else (if (wrap64 (t180 - t179)) > 1 then (some false) else (if t179 = 1 then (some true) else (if bt182.1 = 1 then (some true) else (if (wrap64 (t179 + bt182.2.1)) = (wrap64 (2 * a0)) then (some ((wrap64 (t180 + bt182.1)) == (wrap64 (2 * a0)))) else (some false)))))))) else (some false)) else (some false))) = some r := H
       have A19 := Aside0.mk A190
       clear A190
       replace H := Option.bind_eq_some_iff.mp H
       obtain ⟨⟨t182, t183, t184⟩, A200, H⟩ := H
       replace H : (if t181 = 0 then (if t184 = 0 then (if t179 < t175 then (some false) else (if t180 > t176 then (some false) else (if t175 > t176 then (some false) else (if (wrap64 (t180 - t179)) > 1 then (some false) else (if t179 = 1 then (some true) else (if t182 = 1 then (some true) else (if (wrap64 (t179 + t183)) = (wrap64 (2 * a0)) then (some ((wrap64 (t180 + t182)) == (wrap64 (2 * a0)))) else (some false)))))))) else (some false)) else (some false)) = some r := H
       have A20 := Aside0.mk A200
       clear A200
       refine Or.elim (Classical.em (t181 = 0)) (fun c21 => ?p6_) (fun c21 => ?n6_)
       case' p6_ =>
        rw [if_pos c21] at H
        have c21b0 : (t181 == 0) = true := beq_iff_eq.mpr c21
        have c21b1 : (t181 != 0) = false := bne_eq_false_iff_eq.mpr c21
        clear c21
        refine Or.elim (Classical.em (t184 = 0)) (fun c22 => ?p7_) (fun c22 => ?n7_)
        case' p7_ =>
         rw [if_pos c22] at H
         have c22b0 : (t184 == 0) = true := beq_iff_eq.mpr c22
         have c22b1 : (t184 != 0) = false := bne_eq_false_iff_eq.mpr c22
         clear c22
         refine Or.elim (Classical.em (t179 < t175)) (fun c23 => ?p8_) (fun c23 => ?n8_)
         case' p8_ =>
          rw [if_pos c23] at H
          have c23b0 : decide (t179 < t175) = true := decide_eq_true c23
          clear c23
         case' n8_ =>
          rw [if_neg c23] at H
          have c23b0 : decide (t179 < t175) = false := decide_eq_false c23
          clear c23
          refine Or.elim (Classical.em (t180 > t176)) (fun c29 => ?p9_) (fun c29 => ?n9_)
          case' p9_ =>
           rw [if_pos c29] at H
           have c29b0 : decide (t176 < t180) = true := decide_eq_true c29
           clear c29
          case' n9_ =>
           rw [if_neg c29] at H
           have c29b0 : decide (t176 < t180) = false := decide_eq_false c29
           clear c29
           refine Or.elim (Classical.em (t175 > t176)) (fun c35 => ?p10_) (fun c35 => ?n10_)
           case' p10_ =>
            rw [if_pos c35] at H
            have c35b0 : decide (t176 < t175) = true := decide_eq_true c35
            clear c35
           case' n10_ =>
            rw [if_neg c35] at H
            have c35b0 : decide (t176 < t175) = false := decide_eq_false c35
            clear c35
            refine Or.elim (Classical.em ((wrap64 (t180 - t179)) > 1)) (fun c41 => ?p11_) (fun c41 => ?n11_)
            case' p11_ =>
             rw [if_pos c41] at H
             have c41b0 : decide (1 < (wrap64 (t180 - t179))) = true := decide_eq_true c41
             clear c41
            case' n11_ =>
             rw [if_neg c41] at H
             have c41b0 : decide (1 < (wrap64 (t180 - t179))) = false := decide_eq_false c41
             clear c41
             refine Or.elim (Classical.em (t179 = 1)) (fun c47 => ?p12_) (fun c47 => ?n12_)
             case' p12_ =>
              rw [if_pos c47] at H
              have c47b0 : (t179 == 1) = true := beq_iff_eq.mpr c47
              have c47b1 : (t179 != 1) = false := bne_eq_false_iff_eq.mpr c47
              clear c47
             case' n12_ =>
              rw [if_neg c47] at H
              have c47b0 : (t179 == 1) = false := beq_eq_false_iff_ne.mpr c47
              have c47b1 : (t179 != 1) = true := bne_iff_ne.mpr c47
              refine Or.elim (Classical.em (t182 = 1)) (fun c53 => ?p13_) (fun c53 => ?n13_)
              case' p13_ =>
               rw [if_pos c53] at H
               have c53b0 : (t182 == 1) = true := beq_iff_eq.mpr c53
               have c53b1 : (t182 != 1) = false := bne_eq_false_iff_eq.mpr c53
               clear c53
              case' n13_ =>
               rw [if_neg c53] at H
               have c53b0 : (t182 == 1) = false := beq_eq_false_iff_ne.mpr c53
               have c53b1 : (t182 != 1) = true := bne_iff_ne.mpr c53
               refine Or.elim (Classical.em ((wrap64 (t179 + t183)) = (wrap64 (2 * a0)))) (fun c59 => ?p14_) (fun c59 => ?n14_)
               case' p14_ =>
                rw [if_pos c59] at H
                have c59b0 : ((wrap64 (t179 + t183)) == (wrap64 (2 * a0))) = true := beq_iff_eq.mpr c59
                have c59b1 : ((wrap64 (t179 + t183)) != (wrap64 (2 * a0))) = false := bne_eq_false_iff_eq.mpr c59
                clear c59
               case' n14_ =>
                rw [if_neg c59] at H
                have c59b0 : ((wrap64 (t179 + t183)) == (wrap64 (2 * a0))) = false := beq_eq_false_iff_ne.mpr c59
                have c59b1 : ((wrap64 (t179 + t183)) != (wrap64 (2 * a0))) = true := bne_iff_ne.mpr c59
        case' n7_ =>
         rw [if_neg c22] at H
         have c22b0 : (t184 == 0) = false := beq_eq_false_iff_ne.mpr c22
         have c22b1 : (t184 != 0) = true := bne_iff_ne.mpr c22
       case' n6_ =>
        rw [if_neg c21] at H
        have c21b0 : (t181 == 0) = false := beq_eq_false_iff_ne.mpr c21
        have c21b1 : (t181 != 0) = true := bne_iff_ne.mpr c21
       all_goals
        obtain rfl := Option.some.inj H
        have hnbzc1 := NB178_173.out
        have hnczc1 := NB173_178.out
        have hczzc1 : wc.cell? ⟨gb178, 0, none⟩ = some (.int .i64 a2_0) := (blk_cell BK178.out 0).trans rfl
        have hczzc2 : wc.cell? ⟨gb178, 1, none⟩ = some (.int .i64 a2_1) := (blk_cell BK178.out 1).trans rfl
        have hczzc3 : wc.cell? ⟨gb178, 2, none⟩ = some (.int .i64 a2_2) := (blk_cell BK178.out 2).trans rfl
        have hczzc4 : wc.cell? ⟨gb178, 3, none⟩ = some (.int .i64 a2_3) := (blk_cell BK178.out 3).trans rfl
        have hczzc5 : wc.cell? ⟨gb178, 4, none⟩ = some (.int .i64 x179004_7) := (blk_cell BK178.out 4).trans rfl
        have hfzzc1 := blk_frozen BK178.out 0
        have hfzzc2 := blk_frozen BK178.out 1
        have hfzzc3 := blk_frozen BK178.out 2
        have hfzzc4 := blk_frozen BK178.out 3
        have hfzzc5 := blk_frozen BK178.out 4
        go_wp2_with (first | ((with_reducible refine gate_callee (f := 20) rfl ?_); refine goesL_ (some 41) rfl rfl Tryd.func20 (by kernel_rfl) rfl #[.int .i64 a0, .int .i64 a1, .agg #[.int .i64 a2_0, .int .i64 a2_1, .int .i64 a2_2, .int .i64 a2_3, .int .i64 x179004_7]] rfl (by (try simp only [List.map_toArray, List.map_cons, List.map_nil]); first | done | rfl | (simp only [List.length_drop, List.length_take]; rfl)) ?_; (with_reducible refine (wind_Ground.calls kj7 a0 a1 a2_0 a2_1 a2_2 a2_3 x179004_7 t179 t180 t181 _ A19.out).mono ?_); rintro e wx2c201 ⟨rfl, hb⟩; refine ⟨_, rfl, ?_⟩; have n0_ := Aside0.mk (blk_below (g := gb173) (o := .cells #[.int .i64 a2_0, .int .i64 a2_1, .int .i64 a2_2, .int .i64 a2_3, .int .i64 a2_4] 38 (0, 0)) (by (with_reducible repeat (first | refine blk_drewN ?_ _ | refine blk_drew ?_ | refine blk_alloc ?_ _)); exact BK173.out) hb); have n1_ := Aside0.mk (blk_below (g := gb178) (o := .cells #[.int .i64 a2_0, .int .i64 a2_1, .int .i64 a2_2, .int .i64 a2_3, .int .i64 x179004_7] 38 (0, 0)) (by (with_reducible repeat (first | refine blk_drewN ?_ _ | refine blk_drew ?_ | refine blk_alloc ?_ _)); exact BK178.out) hb); have n2_ := Aside0.mk (below_step (by repeat (first | (with_reducible first | exact HB.out | apply below_alloc | apply pw_below_drewN | apply below_drew1 | refine below_set ?_ GE173.out | refine below_set ?_ GE178.out) | exact HB.out)) hb); clear BK173; clear BK178; clear HB; have BK173 := n0_; have BK178 := n1_; have HB := n2_; clear n0_ n1_ n2_; (try clear hb); (try clear hb2); (try clear hk); (try clear hi); have hczx2c201 : wx2c201.cell? ⟨gb178, 0, none⟩ = some (.int .i64 a2_0) := (blk_cell BK178.out 0).trans rfl; have hczx2c202 : wx2c201.cell? ⟨gb178, 1, none⟩ = some (.int .i64 a2_1) := (blk_cell BK178.out 1).trans rfl; have hczx2c203 : wx2c201.cell? ⟨gb178, 2, none⟩ = some (.int .i64 a2_2) := (blk_cell BK178.out 2).trans rfl; have hczx2c204 : wx2c201.cell? ⟨gb178, 3, none⟩ = some (.int .i64 a2_3) := (blk_cell BK178.out 3).trans rfl; have hczx2c205 : wx2c201.cell? ⟨gb178, 4, none⟩ = some (.int .i64 x179004_7) := (blk_cell BK178.out 4).trans rfl; have hfzx2c201 := blk_frozen BK178.out 0; have hfzx2c202 := blk_frozen BK178.out 1; have hfzx2c203 := blk_frozen BK178.out 2; have hfzx2c204 := blk_frozen BK178.out 3; have hfzx2c205 := blk_frozen BK178.out 4) | ((with_reducible refine gate_callee (f := 20) rfl ?_); refine goesL_ (some 50) rfl rfl Tryd.func20 (by kernel_rfl) rfl #[.int .i64 a0, .int .i64 (wrap64 (a1 + 2048)), .agg #[.int .i64 a2_0, .int .i64 a2_1, .int .i64 a2_2, .int .i64 a2_3, .int .i64 x179004_7]] rfl (by (try simp only [List.map_toArray, List.map_cons, List.map_nil]); first | done | rfl | (simp only [List.length_drop, List.length_take]; rfl)) ?_; (with_reducible refine (wind_Ground.calls kj7 a0 (wrap64 (a1 + 2048)) a2_0 a2_1 a2_2 a2_3 x179004_7 t182 t183 t184 _ A20.out).mono ?_); rintro e wx3eab1 ⟨rfl, hb⟩; refine ⟨_, rfl, ?_⟩; have n0_ := Aside0.mk (blk_below (g := gb173) (o := .cells #[.int .i64 a2_0, .int .i64 a2_1, .int .i64 a2_2, .int .i64 a2_3, .int .i64 a2_4] 38 (0, 0)) (by (with_reducible repeat (first | refine blk_drewN ?_ _ | refine blk_drew ?_ | refine blk_alloc ?_ _)); exact BK173.out) hb); have n1_ := Aside0.mk (blk_below (g := gb178) (o := .cells #[.int .i64 a2_0, .int .i64 a2_1, .int .i64 a2_2, .int .i64 a2_3, .int .i64 x179004_7] 38 (0, 0)) (by (with_reducible repeat (first | refine blk_drewN ?_ _ | refine blk_drew ?_ | refine blk_alloc ?_ _)); exact BK178.out) hb); have n2_ := Aside0.mk (below_step (by repeat (first | (with_reducible first | exact HB.out | apply below_alloc | apply pw_below_drewN | apply below_drew1 | refine below_set ?_ GE173.out | refine below_set ?_ GE178.out) | exact HB.out)) hb); clear BK173; clear BK178; clear HB; have BK173 := n0_; have BK178 := n1_; have HB := n2_; clear n0_ n1_ n2_; (try clear hb); (try clear hb2); (try clear hk); (try clear hi)))
        go_ret
        exact ⟨by first | rfl | (simp [errW_none, errW_some] <;> rfl) | (simp [*, errW_none, errW_some] <;> rfl), by repeat (first | (with_reducible first | exact HB.out | apply below_alloc | apply pw_below_drewN | apply below_drew1 | refine below_set ?_ GE173.out | refine below_set ?_ GE178.out) | exact HB.out)⟩
   | clear hm1_1
     obtain rfl := Option.some.inj H
     go_enter Tryd.func8, Tryd.ntmps8
     go_wp2_with (first | ((with_reducible refine gate_dst (N := 5) rfl ?_); refine box_event ?hg (N := 5) ?hd (cs := #[.int .i64 a2_0, .int .i64 a2_1, .int .i64 a2_2, .int .i64 a2_3, .int .i64 a2_4]) (t := 38) ?hr ?_; (case hd => rfl); (case hg => rfl); (case hr => first | (go_simp; done) | (go_simp; rfl)); intro gb173 hg wx0bdb1 hbox hb; have n0_ := Aside0.mk (below_step (by repeat (first | (with_reducible first | exact HB.out | apply below_alloc | apply pw_below_drewN | apply below_drew1) | exact HB.out)) hb); have n1_ := Aside0.mk (hbox); have n2_ := Aside0.mk ((by rw [hg]; exact (below_size (by repeat (first | (with_reducible first | exact HB.out | apply below_alloc | apply pw_below_drewN | apply below_drew1) | exact HB.out))) : w.heap.size ≤ gb173)); have n3_ := Aside0.mk ((by rw [hg]; exact (below_size (by repeat (first | (with_reducible first | exact HB.out | apply below_alloc | apply pw_below_drewN | apply below_drew1) | exact HB.out))) : w.heap.size ≤ gb173)); clear HB; have HB := n0_; have BK173 := n1_; have GW173 := n2_; have GE173 := n3_; clear n0_ n1_ n2_ n3_; clear hb hbox hg) | ((with_reducible refine gate_callee (f := 19) rfl ?_); refine goesL_ (some 17) rfl rfl Tryd.func19 (by kernel_rfl) rfl #[] rfl (by (try simp only [List.map_toArray, List.map_cons, List.map_nil]); first | done | rfl | (simp only [List.length_drop, List.length_take]; rfl)) ?_; (with_reducible refine (skywaykeep1_windWorks.calls k  true _ A4.out).mono ?_); rintro e wx06001 ⟨rfl, hb⟩; refine ⟨_, rfl, ?_⟩; have n0_ := Aside0.mk (blk_below (g := gb173) (o := .cells #[.int .i64 a2_0, .int .i64 a2_1, .int .i64 a2_2, .int .i64 a2_3, .int .i64 a2_4] 38 (0, 0)) (by (with_reducible repeat (first | refine blk_drewN ?_ _ | refine blk_drew ?_ | refine blk_alloc ?_ _)); exact BK173.out) hb); have n1_ := Aside0.mk (below_step (by repeat (first | (with_reducible first | exact HB.out | apply below_alloc | apply pw_below_drewN | apply below_drew1 | refine below_set ?_ GE173.out) | exact HB.out)) hb); clear BK173; clear HB; have BK173 := n0_; have HB := n1_; clear n0_ n1_; (try clear hb); (try clear hb2); (try clear hk); (try clear hi); have hczx06001 : wx06001.cell? ⟨gb173, 0, none⟩ = some (.int .i64 a2_0) := (blk_cell BK173.out 0).trans rfl; have hczx06002 : wx06001.cell? ⟨gb173, 1, none⟩ = some (.int .i64 a2_1) := (blk_cell BK173.out 1).trans rfl; have hczx06003 : wx06001.cell? ⟨gb173, 2, none⟩ = some (.int .i64 a2_2) := (blk_cell BK173.out 2).trans rfl; have hczx06004 : wx06001.cell? ⟨gb173, 3, none⟩ = some (.int .i64 a2_3) := (blk_cell BK173.out 3).trans rfl; have hczx06005 : wx06001.cell? ⟨gb173, 4, none⟩ = some (.int .i64 a2_4) := (blk_cell BK173.out 4).trans rfl; have hfzx06001 := blk_frozen BK173.out 0; have hfzx06002 := blk_frozen BK173.out 1; have hfzx06003 := blk_frozen BK173.out 2; have hfzx06004 := blk_frozen BK173.out 3; have hfzx06005 := blk_frozen BK173.out 4) | ((with_reducible refine gate_callee (f := 19) rfl ?_); refine goesL_ (some 17) rfl rfl Tryd.func19 (by kernel_rfl) rfl #[] rfl (by (try simp only [List.map_toArray, List.map_cons, List.map_nil]); first | done | rfl | (simp only [List.length_drop, List.length_take]; rfl)) ?_; (with_reducible refine (skywaykeep1_windWorks.calls k  false _ A4.out).mono ?_); rintro e wx23d21 ⟨rfl, hb⟩; refine ⟨_, rfl, ?_⟩; have n0_ := Aside0.mk (blk_below (g := gb173) (o := .cells #[.int .i64 a2_0, .int .i64 a2_1, .int .i64 a2_2, .int .i64 a2_3, .int .i64 a2_4] 38 (0, 0)) (by (with_reducible repeat (first | refine blk_drewN ?_ _ | refine blk_drew ?_ | refine blk_alloc ?_ _)); exact BK173.out) hb); have n1_ := Aside0.mk (below_step (by repeat (first | (with_reducible first | exact HB.out | apply below_alloc | apply pw_below_drewN | apply below_drew1 | refine below_set ?_ GE173.out) | exact HB.out)) hb); clear BK173; clear HB; have BK173 := n0_; have HB := n1_; clear n0_ n1_; (try clear hb); (try clear hb2); (try clear hk); (try clear hi)) | ((with_reducible refine gate_callee (f := 20) rfl ?_); refine goesL_ (some 23) rfl rfl Tryd.func20 (by kernel_rfl) rfl #[.int .i64 a0, .int .i64 a1, .agg #[.int .i64 a2_0, .int .i64 a2_1, .int .i64 a2_2, .int .i64 a2_3, .int .i64 a2_4]] rfl (by (try simp only [List.map_toArray, List.map_cons, List.map_nil]); first | done | rfl | (simp only [List.length_drop, List.length_take]; rfl)) ?_; (with_reducible refine (wind_Ground.calls k a0 a1 a2_0 a2_1 a2_2 a2_3 a2_4 t175 t176 t177 _ A6.out).mono ?_); rintro e wx91c71 ⟨rfl, hb⟩; refine ⟨_, rfl, ?_⟩; have n0_ := Aside0.mk (blk_below (g := gb173) (o := .cells #[.int .i64 a2_0, .int .i64 a2_1, .int .i64 a2_2, .int .i64 a2_3, .int .i64 a2_4] 38 (0, 0)) (by (with_reducible repeat (first | refine blk_drewN ?_ _ | refine blk_drew ?_ | refine blk_alloc ?_ _)); exact BK173.out) hb); have n1_ := Aside0.mk (below_step (by repeat (first | (with_reducible first | exact HB.out | apply below_alloc | apply pw_below_drewN | apply below_drew1 | refine below_set ?_ GE173.out) | exact HB.out)) hb); clear BK173; clear HB; have BK173 := n0_; have HB := n1_; clear n0_ n1_; (try clear hb); (try clear hb2); (try clear hk); (try clear hi)))
     go_ret
     exact ⟨by first | rfl | (simp [errW_none, errW_some] <;> rfl) | (simp [*, errW_none, errW_some] <;> rfl), by repeat (first | (with_reducible first | exact HB.out | apply below_alloc | apply pw_below_drewN | apply below_drew1 | refine below_set ?_ GE173.out) | exact HB.out)⟩

/-- What is told of a value of struct type 28 that came in. -/
def good28 (x : S28) : Prop := ((Lit.int .i64 x.f0).wf = true) ∧ (Lit.int .i64 x.f1).wf = true
/-- What is told of a value of struct type 38 that came in. -/
def good38 (x : S38) : Prop := ((Lit.int .i64 x.f0).wf = true) ∧ ((Lit.int .i64 x.f1).wf = true) ∧ (good28 x.f2) ∧ (Lit.int .i64 x.f3).wf = true
/-- THE ONE PURE STATEMENT of skywaykeep1_WindBounds. -/
def skywaykeep1_WindBounds.Pure : Prop := ∀ (a0 : Int) (a1 : Int) (a2_0 : Int) (a2_1 : Int) (a2_2 : Int) (a2_3 : Int) (a2_4 : Int), ((Lit.int .i64 a0).wf = true) → ((Lit.int .i64 a1).wf = true) → ((Lit.int .i64 a2_0).wf = true) → ((Lit.int .i64 a2_1).wf = true) → ((Lit.int .i64 a2_2).wf = true) → ((Lit.int .i64 a2_3).wf = true) → ((Lit.int .i64 a2_4).wf = true) → ∃ k, skywaykeep1_WindBounds.f k a0 a1 a2_0 a2_1 a2_2 a2_3 a2_4 = some true

end Go.Proofs.YthpbpdobghceeaaDoor.PWindBounds
