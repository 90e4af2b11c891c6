/- Made by a program of this session (wip/tools/myprint.py, over the kit's printer): that the Go functions answer as the Lean functions printed beside them. -/
import Derived.Test.YthpbpdobghceeaaDoorPAngleTurnedx0
import Derived.Test.YthpbpdobghceeaaDoorPAngleTurnedx2
import Derived.Test.YthpbpdobghceeaaDoorPAngleTurnedx3
namespace Go.Proofs.YthpbpdobghceeaaDoor.PAngleTurned
open Go.RowKit Go.Proofs.YthpbpdobghceeaaDoorW.PrintWords Go.Proofs.YthpbpdobghceeaaDoorW.PrintLast Go.Proofs.YthpbpdobghceeaaDoorW.PrintMore
attribute [local go_sem] max2_int min2_int max_two min_two max_three min_three max_four min_four   -- for this text's walks alone
set_option linter.unusedVariables false
set_option linter.unusedSimpArgs false

/-! ### skywaykeep1_AngleTurned: function 6 -/
def skywaykeep1_AngleTurned.f (a0_0 : Int) (a0_1 : Int) : Option (Bool) := (skywaykeep1_angleWorks.f).bind fun t111 => (if t111 = true then ((angle_Of.f a0_0 a0_1).bind fun bt112 => ((angle_Of.f a0_1 (wrap64 (-a0_0))).bind fun bt114 => (if bt112.2 = 0 then (if bt114.2 = 0 then ((angle_Norm.f (wrap64 (bt112.1 + 1024))).bind fun t116 => (some (bt114.1 == t116))) else (if bt112.2 = bt114.2 then (some true) else (if a0_0 = (-9223372036854775808) then (some true) else (some (a0_1 == (-9223372036854775808)))))) else (if bt112.2 = bt114.2 then (some true) else (if a0_0 = (-9223372036854775808) then (some true) else (some (a0_1 == (-9223372036854775808)))))))) else (some false))
set_option maxHeartbeats 8000000 in
set_option maxRecDepth 100000 in
theorem skywaykeep1_AngleTurned.calls (a0_0 : Int) (a0_1 : Int) (r : Bool) (w : World) (h : skywaykeep1_AngleTurned.f a0_0 a0_1 = some r) (hT0 : Ang.Tab w := by exact Ang.Tab.below hT0 (by repeat (first | (with_reducible first | exact HB.out | apply below_alloc | apply pw_below_drewN | apply below_drew1) | exact HB.out))) :
    Calls Tryd.prog 6 #[.agg #[.int .i64 a0_0, .int .i64 a0_1]] w fun e w' => e = .returned (.bool r) ∧ Below w.heap.size w w' := by
 have hu28 := Tryd.underlying28
 have HB := Aside0.mk (Below.refl w.heap.size w)
 have H : ((skywaykeep1_angleWorks.f).bind fun t111 => (if t111 = true then ((angle_Of.f a0_0 a0_1).bind fun bt112 => ((angle_Of.f a0_1 (wrap64 (-a0_0))).bind fun bt114 => (if bt112.2 = 0 then (if bt114.2 = 0 then ((angle_Norm.f (wrap64 (bt112.1 + 1024))).bind fun t116 => (some (bt114.1 == t116))) else (if bt112.2 = bt114.2 then (some true) else (if a0_0 = (-9223372036854775808) then (some true) else (some (a0_1 == (-9223372036854775808)))))) else (if bt112.2 = bt114.2 then (some true) else (if a0_0 = (-9223372036854775808) then (some true) else (some (a0_1 == (-9223372036854775808)))))))) else (some false))) = some r := h
 clear h
 replace H := Option.bind_eq_some_iff.mp H
 obtain ⟨t111, A20, H⟩ := H
 replace H : (if t111 = true then ((angle_Of.f a0_0 a0_1).bind fun bt112 => ((angle_Of.f a0_1 (wrap64 (-a0_0))).bind fun bt114 => (if bt112.2 = 0 then (if bt114.2 = 0 then ((angle_Norm.f (wrap64 (bt112.1 + 1024))).bind fun t116 => (some (bt114.1 == t116))) else (if bt112.2 = bt114.2 then (some true) else (if a0_0 = (-9223372036854775808) then (some true) else (some (a0_1 == (-9223372036854775808)))))) else (if bt112.2 = bt114.2 then (some true) else (if a0_0 = (-9223372036854775808) then (some true) else (some (a0_1 == (-9223372036854775808)))))))) else (some false)) = some r := H
 have A2 := Aside0.mk A20
 clear A20
 refine Or.elim (Classical.em (t111 = true)) (fun c3 => ?p2_) (fun c3 => ?n2_)
 case' p2_ =>
  subst c3
  have H1 : ((angle_Of.f a0_0 a0_1).bind fun bt112 => ((angle_Of.f a0_1 (wrap64 (-a0_0))).bind fun bt114 => (if bt112.2 = 0 then (if bt114.2 = 0 then ((angle_Norm.f (wrap64 (bt112.1 + 1024))).bind fun t116 => (some (bt114.1 == t116))) else (if bt112.2 = bt114.2 then (some true) else (if a0_0 = (-9223372036854775808) then (some true) else (some (a0_1 == (-9223372036854775808)))))) else (if bt112.2 = bt114.2 then (some true) else (if a0_0 = (-9223372036854775808) then (some true) else (some (a0_1 == (-9223372036854775808)))))))) = some r := by rw [if_pos rfl] at H; exact H
  clear H
  have H := H1
  clear H1
  replace H := Option.bind_eq_some_iff.mp H
  obtain ⟨⟨t112, t113⟩, A40, H⟩ := H
  replace H : ((angle_Of.f a0_1 (wrap64 (-a0_0))).bind fun bt114 => (if t113 = 0 then (if bt114.2 = 0 then ((angle_Norm.f (wrap64 (t112 + 1024))).bind fun t116 => (some (bt114.1 == t116))) else (if t113 = bt114.2 then (some true) else (if a0_0 = (-9223372036854775808) then (some true) else (some (a0_1 == (-9223372036854775808)))))) else (if t113 = bt114.2 then (some true) else (if a0_0 = (-9223372036854775808) then (some true) else (some (a0_1 == (-9223372036854775808))))))) = some r := H
  have A4 := Aside0.mk A40
  clear A40
  replace H := Option.bind_eq_some_iff.mp H
  obtain ⟨⟨t114, t115⟩, A50, H⟩ := H
  replace H : (if t113 = 0 then (if t115 = 0 then ((angle_Norm.f (wrap64 (t112 + 1024))).bind fun t116 => (some (t114 == t116))) else (if t113 = t115 then (some true) else (if a0_0 = (-9223372036854775808) then (some true) else (some (a0_1 == (-9223372036854775808)))))) else (if t113 = t115 then (some true) else (if a0_0 = (-9223372036854775808) then (some true) else (some (a0_1 == (-9223372036854775808)))))) = some r := H
  have A5 := Aside0.mk A50
  clear A50
  refine Or.elim (Classical.em (t113 = 0)) (fun c6 => ?p3_) (fun c6 => ?n3_)
  case' p3_ =>
   rw [if_pos c6] at H
   have c6b0 : (t113 == 0) = true := beq_iff_eq.mpr c6
   have c6b1 : (t113 != 0) = false := bne_eq_false_iff_eq.mpr c6
   clear c6
   refine Or.elim (Classical.em (t115 = 0)) (fun c7 => ?p4_) (fun c7 => ?n4_)
   case' p4_ =>
    rw [if_pos c7] at H
    have c7b0 : (t115 == 0) = true := beq_iff_eq.mpr c7
    have c7b1 : (t115 != 0) = false := bne_eq_false_iff_eq.mpr c7
    clear c7
    replace H := Option.bind_eq_some_iff.mp H
    obtain ⟨t116, A80, H⟩ := H
    replace H : (some (t114 == t116)) = some r := H
    have A8 := Aside0.mk A80
    clear A80
   case' n4_ =>
    rw [if_neg c7] at H
    have c7b0 : (t115 == 0) = false := beq_eq_false_iff_ne.mpr c7
    have c7b1 : (t115 != 0) = true := bne_iff_ne.mpr c7
    refine Or.elim (Classical.em (t113 = t115)) (fun c16 => ?p5_) (fun c16 => ?n5_)
    case' p5_ =>
     rw [if_pos c16] at H
     have c16b0 : (t113 == t115) = true := beq_iff_eq.mpr c16
     have c16b1 : (t113 != t115) = false := bne_eq_false_iff_eq.mpr c16
     clear c16
    case' n5_ =>
     rw [if_neg c16] at H
     have c16b0 : (t113 == t115) = false := beq_eq_false_iff_ne.mpr c16
     have c16b1 : (t113 != t115) = true := bne_iff_ne.mpr c16
     refine Or.elim (Classical.em (a0_0 = (-9223372036854775808))) (fun c23 => ?p6_) (fun c23 => ?n6_)
     case' p6_ =>
      rw [if_pos c23] at H
      have c23b0 : (a0_0 == (-9223372036854775808)) = true := beq_iff_eq.mpr c23
      have c23b1 : (a0_0 != (-9223372036854775808)) = false := bne_eq_false_iff_eq.mpr c23
      clear c23
     case' n6_ =>
      rw [if_neg c23] at H
      have c23b0 : (a0_0 == (-9223372036854775808)) = false := beq_eq_false_iff_ne.mpr c23
      have c23b1 : (a0_0 != (-9223372036854775808)) = true := bne_iff_ne.mpr c23
  case' n3_ =>
   rw [if_neg c6] at H
   have c6b0 : (t113 == 0) = false := beq_eq_false_iff_ne.mpr c6
   have c6b1 : (t113 != 0) = true := bne_iff_ne.mpr c6
   refine Or.elim (Classical.em (t113 = t115)) (fun c38 => ?p7_) (fun c38 => ?n7_)
   case' p7_ =>
    rw [if_pos c38] at H
    have c38b0 : (t113 == t115) = true := beq_iff_eq.mpr c38
    have c38b1 : (t113 != t115) = false := bne_eq_false_iff_eq.mpr c38
    clear c38
   case' n7_ =>
    rw [if_neg c38] at H
    have c38b0 : (t113 == t115) = false := beq_eq_false_iff_ne.mpr c38
    have c38b1 : (t113 != t115) = true := bne_iff_ne.mpr c38
    refine Or.elim (Classical.em (a0_0 = (-9223372036854775808))) (fun c45 => ?p8_) (fun c45 => ?n8_)
    case' p8_ =>
     rw [if_pos c45] at H
     have c45b0 : (a0_0 == (-9223372036854775808)) = true := beq_iff_eq.mpr c45
     have c45b1 : (a0_0 != (-9223372036854775808)) = false := bne_eq_false_iff_eq.mpr c45
     clear c45
    case' n8_ =>
     rw [if_neg c45] at H
     have c45b0 : (a0_0 == (-9223372036854775808)) = false := beq_eq_false_iff_ne.mpr c45
     have c45b1 : (a0_0 != (-9223372036854775808)) = true := bne_iff_ne.mpr c45
 case' n2_ =>
  replace c3 := Bool.eq_false_iff.mpr c3
  subst c3
  have H1 : (some false) = some r := by rw [if_neg (show ¬ (false = true) by decide)] at H; exact H
  clear H
  have H := H1
  clear H1
 all_goals
  obtain rfl := Option.some.inj H
  go_enter Tryd.func6, Tryd.ntmps6
  go_wp2_with (first | ((with_reducible refine gate_dst (N := 1) rfl ?_); refine box_event ?hg (N := 1) ?hd (cs := #[.int .i64 a0_0, .int .i64 a0_1]) (t := 28) ?hr ?_; (case hd => rfl); (case hg => rfl); (case hr => first | (go_simp; done) | (go_simp; rfl)); intro gb110 hg wx8e7c1 hbox hb; have n0_ := Aside0.mk (below_step (by repeat (first | (with_reducible first | exact HB.out | apply below_alloc | apply pw_below_drewN | apply below_drew1) | exact HB.out)) hb); have n1_ := Aside0.mk (hbox); have n2_ := Aside0.mk ((by rw [hg]; exact (below_size (by repeat (first | (with_reducible first | exact HB.out | apply below_alloc | apply pw_below_drewN | apply below_drew1) | exact HB.out))) : w.heap.size ≤ gb110)); have n3_ := Aside0.mk ((by rw [hg]; exact (below_size (by repeat (first | (with_reducible first | exact HB.out | apply below_alloc | apply pw_below_drewN | apply below_drew1) | exact HB.out))) : w.heap.size ≤ gb110)); clear HB; have HB := n0_; have BK110 := n1_; have GW110 := n2_; have GE110 := n3_; clear n0_ n1_ n2_ n3_; clear hb hbox hg) | ((with_reducible refine gate_callee (f := 11) rfl ?_); refine goesL_ (some 7) rfl rfl Tryd.func11 (by kernel_rfl) rfl #[] rfl (by (try simp only [List.map_toArray, List.map_cons, List.map_nil]); first | done | rfl | (simp only [List.length_drop, List.length_take]; rfl)) ?_; (with_reducible refine (skywaykeep1_angleWorks.calls  true _ A2.out).mono ?_); rintro e wx2b191 ⟨rfl, hb⟩; refine ⟨_, rfl, ?_⟩; have n0_ := Aside0.mk (blk_below (g := gb110) (o := .cells #[.int .i64 a0_0, .int .i64 a0_1] 28 (0, 0)) (by (with_reducible repeat (first | refine blk_drewN ?_ _ | refine blk_drew ?_ | refine blk_alloc ?_ _)); exact BK110.out) hb); have n1_ := Aside0.mk (below_step (by repeat (first | (with_reducible first | exact HB.out | apply below_alloc | apply pw_below_drewN | apply below_drew1 | refine below_set ?_ GE110.out) | exact HB.out)) hb); clear BK110; clear HB; have BK110 := n0_; have HB := n1_; clear n0_ n1_; (try clear hb); (try clear hb2); (try clear hk); (try clear hi); have hczx2b191 : wx2b191.cell? ⟨gb110, 0, none⟩ = some (.int .i64 a0_0) := (blk_cell BK110.out 0).trans rfl; have hczx2b192 : wx2b191.cell? ⟨gb110, 1, none⟩ = some (.int .i64 a0_1) := (blk_cell BK110.out 1).trans rfl; have hfzx2b191 := blk_frozen BK110.out 0; have hfzx2b192 := blk_frozen BK110.out 1) | ((with_reducible refine gate_callee (f := 11) rfl ?_); refine goesL_ (some 7) rfl rfl Tryd.func11 (by kernel_rfl) rfl #[] rfl (by (try simp only [List.map_toArray, List.map_cons, List.map_nil]); first | done | rfl | (simp only [List.length_drop, List.length_take]; rfl)) ?_; (with_reducible refine (skywaykeep1_angleWorks.calls  false _ A2.out).mono ?_); rintro e wx6f381 ⟨rfl, hb⟩; refine ⟨_, rfl, ?_⟩; have n0_ := Aside0.mk (blk_below (g := gb110) (o := .cells #[.int .i64 a0_0, .int .i64 a0_1] 28 (0, 0)) (by (with_reducible repeat (first | refine blk_drewN ?_ _ | refine blk_drew ?_ | refine blk_alloc ?_ _)); exact BK110.out) hb); have n1_ := Aside0.mk (below_step (by repeat (first | (with_reducible first | exact HB.out | apply below_alloc | apply pw_below_drewN | apply below_drew1 | refine below_set ?_ GE110.out) | exact HB.out)) hb); clear BK110; clear HB; have BK110 := n0_; have HB := n1_; clear n0_ n1_; (try clear hb); (try clear hb2); (try clear hk); (try clear hi)) | ((with_reducible refine gate_callee (f := 16) rfl ?_); refine goesL_ (some 11) rfl rfl Tryd.func16 (by kernel_rfl) rfl #[.agg #[.int .i64 a0_0, .int .i64 a0_1]] rfl (by (try simp only [List.map_toArray, List.map_cons, List.map_nil]); first | done | rfl | (simp only [List.length_drop, List.length_take]; rfl)) ?_; (with_reducible refine (angle_Of.calls a0_0 a0_1 t112 t113 _ A4.out).mono ?_); rintro e wx58121 ⟨rfl, hb⟩; refine ⟨_, rfl, ?_⟩; have n0_ := Aside0.mk (blk_below (g := gb110) (o := .cells #[.int .i64 a0_0, .int .i64 a0_1] 28 (0, 0)) (by (with_reducible repeat (first | refine blk_drewN ?_ _ | refine blk_drew ?_ | refine blk_alloc ?_ _)); exact BK110.out) hb); have n1_ := Aside0.mk (below_step (by repeat (first | (with_reducible first | exact HB.out | apply below_alloc | apply pw_below_drewN | apply below_drew1 | refine below_set ?_ GE110.out) | exact HB.out)) hb); clear BK110; clear HB; have BK110 := n0_; have HB := n1_; clear n0_ n1_; (try clear hb); (try clear hb2); (try clear hk); (try clear hi); have hczx58121 : wx58121.cell? ⟨gb110, 0, none⟩ = some (.int .i64 a0_0) := (blk_cell BK110.out 0).trans rfl; have hczx58122 : wx58121.cell? ⟨gb110, 1, none⟩ = some (.int .i64 a0_1) := (blk_cell BK110.out 1).trans rfl; have hfzx58121 := blk_frozen BK110.out 0; have hfzx58122 := blk_frozen BK110.out 1) | ((with_reducible refine gate_callee (f := 16) rfl ?_); refine goesL_ (some 21) rfl rfl Tryd.func16 (by kernel_rfl) rfl #[.agg #[.int .i64 a0_1, .int .i64 (wrap64 (-a0_0))]] rfl (by (try simp only [List.map_toArray, List.map_cons, List.map_nil]); first | done | rfl | (simp only [List.length_drop, List.length_take]; rfl)) ?_; (with_reducible refine (angle_Of.calls a0_1 (wrap64 (-a0_0)) t114 t115 _ A5.out).mono ?_); rintro e wx2e891 ⟨rfl, hb⟩; refine ⟨_, rfl, ?_⟩; have n0_ := Aside0.mk (blk_below (g := gb110) (o := .cells #[.int .i64 a0_0, .int .i64 a0_1] 28 (0, 0)) (by (with_reducible repeat (first | refine blk_drewN ?_ _ | refine blk_drew ?_ | refine blk_alloc ?_ _)); exact BK110.out) hb); have n1_ := Aside0.mk (below_step (by repeat (first | (with_reducible first | exact HB.out | apply below_alloc | apply pw_below_drewN | apply below_drew1 | refine below_set ?_ GE110.out) | exact HB.out)) hb); clear BK110; clear HB; have BK110 := n0_; have HB := n1_; clear n0_ n1_; (try clear hb); (try clear hb2); (try clear hk); (try clear hi); have hczx2e891 : wx2e891.cell? ⟨gb110, 0, none⟩ = some (.int .i64 a0_0) := (blk_cell BK110.out 0).trans rfl; have hczx2e892 : wx2e891.cell? ⟨gb110, 1, none⟩ = some (.int .i64 a0_1) := (blk_cell BK110.out 1).trans rfl; have hfzx2e891 := blk_frozen BK110.out 0; have hfzx2e892 := blk_frozen BK110.out 1) | ((with_reducible refine gate_callee (f := 16) rfl ?_); refine goesL_ (some 21) rfl rfl Tryd.func16 (by kernel_rfl) rfl #[.agg #[.int .i64 a0_1, .int .i64 (wrap64 (-a0_0))]] rfl (by (try simp only [List.map_toArray, List.map_cons, List.map_nil]); first | done | rfl | (simp only [List.length_drop, List.length_take]; rfl)) ?_; (with_reducible refine (angle_Of.calls a0_1 (wrap64 (-a0_0)) t114 t115 _ A5.out).mono ?_); rintro e wx1d001 ⟨rfl, hb⟩; refine ⟨_, rfl, ?_⟩; have n0_ := Aside0.mk (blk_below (g := gb110) (o := .cells #[.int .i64 a0_0, .int .i64 a0_1] 28 (0, 0)) (by (with_reducible repeat (first | refine blk_drewN ?_ _ | refine blk_drew ?_ | refine blk_alloc ?_ _)); exact BK110.out) hb); have n1_ := Aside0.mk (below_step (by repeat (first | (with_reducible first | exact HB.out | apply below_alloc | apply pw_below_drewN | apply below_drew1 | refine below_set ?_ GE110.out) | exact HB.out)) hb); clear BK110; clear HB; have BK110 := n0_; have HB := n1_; clear n0_ n1_; (try clear hb); (try clear hb2); (try clear hk); (try clear hi)) | ((with_reducible refine gate_callee (f := 14) rfl ?_); refine goesL_ (some 46) rfl rfl Tryd.func14 (by kernel_rfl) rfl #[.int .i64 (wrap64 (t112 + 1024))] rfl (by (try simp only [List.map_toArray, List.map_cons, List.map_nil]); first | done | rfl | (simp only [List.length_drop, List.length_take]; rfl)) ?_; (with_reducible refine (angle_Norm.calls (wrap64 (t112 + 1024)) t116 _ A8.out).mono ?_); rintro e wx8eb71 ⟨rfl, hb⟩; refine ⟨_, rfl, ?_⟩; have n0_ := Aside0.mk (blk_below (g := gb110) (o := .cells #[.int .i64 a0_0, .int .i64 a0_1] 28 (0, 0)) (by (with_reducible repeat (first | refine blk_drewN ?_ _ | refine blk_drew ?_ | refine blk_alloc ?_ _)); exact BK110.out) hb); have n1_ := Aside0.mk (below_step (by repeat (first | (with_reducible first | exact HB.out | apply below_alloc | apply pw_below_drewN | apply below_drew1 | refine below_set ?_ GE110.out) | exact HB.out)) hb); clear BK110; clear HB; have BK110 := n0_; have HB := n1_; clear n0_ n1_; (try clear hb); (try clear hb2); (try clear hk); (try clear hi)))
  go_ret
  exact ⟨by first | rfl | (simp [errW_none, errW_some] <;> rfl) | (simp [*, errW_none, errW_some] <;> rfl), by repeat (first | (with_reducible first | exact HB.out | apply below_alloc | apply pw_below_drewN | apply below_drew1 | refine below_set ?_ GE110.out) | exact HB.out)⟩

/-- What is told of a value of struct type 28 that came in. -/
def good28 (x : S28) : Prop := ((Lit.int .i64 x.f0).wf = true) ∧ (Lit.int .i64 x.f1).wf = true
/-- THE ONE PURE STATEMENT of skywaykeep1_AngleTurned. -/
def skywaykeep1_AngleTurned.Pure : Prop := ∀ (a0_0 : Int) (a0_1 : Int), ((Lit.int .i64 a0_0).wf = true) → ((Lit.int .i64 a0_1).wf = true) → skywaykeep1_AngleTurned.f a0_0 a0_1 = some true

end Go.Proofs.YthpbpdobghceeaaDoor.PAngleTurned
