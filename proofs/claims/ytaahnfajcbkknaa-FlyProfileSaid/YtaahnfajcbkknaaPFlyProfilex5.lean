/- Made by a program of this session (wip/tools/myprint.py, over the kit's printer): that the Go functions answer as the Lean functions printed beside them. -/
import Derived.Test.YtaahnfajcbkknaaPFlyProfilex0
import Derived.Test.YtaahnfajcbkknaaPFlyProfilex1
import Derived.Test.YtaahnfajcbkknaaPFlyProfilex2
import Derived.Test.YtaahnfajcbkknaaPFlyProfilex3
import Derived.Test.YtaahnfajcbkknaaPFlyProfilex4
namespace Go.Proofs.Ytaahnfajcbkknaa.PFlyProfile
open Go.RowKit Go.Proofs.YtaahnfajcbkknaaW.PrintWords Go.Proofs.YtaahnfajcbkknaaW.PrintLast Go.Proofs.YtaahnfajcbkknaaW.PrintMore
attribute [local go_sem] max2_int min2_int max_two min_two max_three min_three max_four min_four   -- for this text's walks alone
set_option linter.unusedVariables false
set_option linter.unusedSimpArgs false

attribute [local go_sem high] eqA49
/-! ### skywaykeep1_flyWorks: function 33 -/
def skywaykeep1_flyWorks.f (k : Nat)  : Option (Bool) := (fly_At.f k (([(⟨10, (⟨0, 0⟩ : S37), 100⟩ : S49), (⟨14, (⟨(-3), 0⟩ : S37), 97⟩ : S49)] : List (S49))) 11).bind fun bt143 => ((skywaykeep1_jet.f).bind fun bt149 => ((fly_Profile.f k bt149.1 bt149.2.1 bt149.2.2.1 bt149.2.2.2.1 bt149.2.2.2.2.1 bt149.2.2.2.2.2.1 bt149.2.2.2.2.2.2 1000 100 2).bind fun bt156 => (if bt143.2.2.2.2 = 0 then (if (bt143.1 == 11 && ((bt143.2.1 == (-1) && (bt143.2.2.1 == 0)) && (bt143.2.2.2.1 == 99))) = true then (if bt156.2 = 0 then (some (bt156.1 == 80)) else (some false)) else (some false)) else (some false))))
theorem skywaykeep1_flyWorks.mono : ∀ k, LeO (skywaykeep1_flyWorks.f k ) (skywaykeep1_flyWorks.f (k + 1) ) := by
  intro  k
  unfold skywaykeep1_flyWorks.f
  repeat' first
      | (with_reducible exact fly_At.mono _ _ _)
      | (with_reducible exact fly_Profile.mono _ _ _ _ _ _ _ _ _ _ _)
      | (with_reducible exact LeO.refl _)
      | (with_reducible exact LeO.none _)
      | (with_reducible refine LeO.ite ?_ ?_)
      | (with_reducible refine LeO.bind ?_ (fun _ => ?_))
      | exact fly_At.mono _ _ _
      | exact fly_Profile.mono _ _ _ _ _ _ _ _ _ _ _
      | exact LeO.none _
      | refine LeO.ite ?_ ?_
      | refine LeO.bind ?_ (fun _ => ?_)
set_option maxHeartbeats 8000000 in
set_option maxRecDepth 100000 in
theorem skywaykeep1_flyWorks.calls (k : Nat)  (r : Bool) (w : World) (h : skywaykeep1_flyWorks.f k  = some r) :
    Calls Try.prog 33 #[] w fun e w' => e = .returned (.bool r) ∧ Below w.heap.size w w' := by
 have hu49 := Try.underlying49
 have hu37 := Try.underlying37
 have HB := Aside0.mk (Below.refl w.heap.size w)
 have H : ((fly_At.f k (([(⟨10, (⟨0, 0⟩ : S37), 100⟩ : S49), (⟨14, (⟨(-3), 0⟩ : S37), 97⟩ : S49)] : List (S49))) 11).bind fun bt143 => ((skywaykeep1_jet.f).bind fun bt149 => ((fly_Profile.f k bt149.1 bt149.2.1 bt149.2.2.1 bt149.2.2.2.1 bt149.2.2.2.2.1 bt149.2.2.2.2.2.1 bt149.2.2.2.2.2.2 1000 100 2).bind fun bt156 => (if bt143.2.2.2.2 = 0 then (if (bt143.1 == 11 && ((bt143.2.1 == (-1) && (bt143.2.2.1 == 0)) && (bt143.2.2.2.1 == 99))) = true then (if bt156.2 = 0 then (some (bt156.1 == 80)) else (some false)) else (some false)) else (some false))))) = some r := h
 clear h
 obtain ⟨y140, hy140⟩ : ∃ y_ : List (S49), y_ = (([(⟨10, (⟨0, 0⟩ : S37), 100⟩ : S49), (⟨14, (⟨(-3), 0⟩ : S37), 97⟩ : S49)] : List (S49))) := ⟨_, rfl⟩
 replace H : ((fly_At.f k y140 11).bind fun bt143 => ((skywaykeep1_jet.f).bind fun bt149 => ((fly_Profile.f k bt149.1 bt149.2.1 bt149.2.2.1 bt149.2.2.2.1 bt149.2.2.2.2.1 bt149.2.2.2.2.2.1 bt149.2.2.2.2.2.2 1000 100 2).bind fun bt156 => (if bt143.2.2.2.2 = 0 then (if (bt143.1 == 11 && ((bt143.2.1 == (-1) && (bt143.2.2.1 == 0)) && (bt143.2.2.2.1 == 99))) = true then (if bt156.2 = 0 then (some (bt156.1 == 80)) else (some false)) else (some false)) else (some false))))) = some r := by first | (rw [hy140]; with_reducible exact H) | (have H2_ := (Option.bind_some _ _).symm.trans H; rw [hy140]; with_reducible exact H2_) | (have H2_ := (Option.bind_some _ _).symm.trans H; with_reducible exact H2_) | with_reducible exact H | (rw [hy140]; exact H) | exact H
 have Ny140 := Aside0.mk hy140
 clear hy140
 replace H := Option.bind_eq_some_iff.mp H
 obtain ⟨⟨t143, t144, t145, t146, t147⟩, A10, H⟩ := H
 replace H : ((skywaykeep1_jet.f).bind fun bt149 => ((fly_Profile.f k bt149.1 bt149.2.1 bt149.2.2.1 bt149.2.2.2.1 bt149.2.2.2.2.1 bt149.2.2.2.2.2.1 bt149.2.2.2.2.2.2 1000 100 2).bind fun bt156 => (if t147 = 0 then (if (t143 == 11 && ((t144 == (-1) && (t145 == 0)) && (t146 == 99))) = true then (if bt156.2 = 0 then (some (bt156.1 == 80)) else (some false)) else (some false)) else (some false)))) = some r := H
 have A1 := Aside0.mk A10
 clear A10
 replace H := Option.bind_eq_some_iff.mp H
 obtain ⟨⟨t149, t150, t151, t152, t153, t154, t155⟩, A20, H⟩ := H
 replace H : ((fly_Profile.f k t149 t150 t151 t152 t153 t154 t155 1000 100 2).bind fun bt156 => (if t147 = 0 then (if (t143 == 11 && ((t144 == (-1) && (t145 == 0)) && (t146 == 99))) = true then (if bt156.2 = 0 then (some (bt156.1 == 80)) else (some false)) else (some false)) else (some false))) = some r := H
 have A2 := Aside0.mk A20
 clear A20
 replace H := Option.bind_eq_some_iff.mp H
 obtain ⟨⟨t156, t157⟩, A30, H⟩ := H
 replace H : (if t147 = 0 then (if (t143 == 11 && ((t144 == (-1) && (t145 == 0)) && (t146 == 99))) = true then (if t157 = 0 then (some (t156 == 80)) else (some false)) else (some false)) else (some false)) = some r := H
 have A3 := Aside0.mk A30
 clear A30
 refine Or.elim (Classical.em (t147 = 0)) (fun c4 => ?p2_) (fun c4 => ?n2_)
 case' p2_ =>
  rw [if_pos c4] at H
  have c4b0 : (t147 == 0) = true := beq_iff_eq.mpr c4
  have c4b1 : (t147 != 0) = false := bne_eq_false_iff_eq.mpr c4
  clear c4
  refine Or.elim (Classical.em ((t143 == 11 && ((t144 == (-1) && (t145 == 0)) && (t146 == 99))) = true)) (fun c5 => ?p3_) (fun c5 => ?n3_)
  case' p3_ =>
   rw [if_pos c5] at H
   have c5b0 : (t143 == 11 && ((t144 == (-1) && (t145 == 0)) && (t146 == 99))) = true := c5
   (try (have c5b1 : decide (t143 = 11 && ((t144 == (-1) && (t145 == 0)) && (t146 == 99))) = true := by simpa using c5))
   (try (have c5b2 : (t143 == 11 && ((t144 == (-1) && (t145 == 0)) && (t146 == 99))) = true := by simpa using c5))
   clear c5
   refine Or.elim (Classical.em (t157 = 0)) (fun c6 => ?p4_) (fun c6 => ?n4_)
   case' p4_ =>
    rw [if_pos c6] at H
    have c6b0 : (t157 == 0) = true := beq_iff_eq.mpr c6
    have c6b1 : (t157 != 0) = false := bne_eq_false_iff_eq.mpr c6
    clear c6
   case' n4_ =>
    rw [if_neg c6] at H
    have c6b0 : (t157 == 0) = false := beq_eq_false_iff_ne.mpr c6
    have c6b1 : (t157 != 0) = true := bne_iff_ne.mpr c6
  case' n3_ =>
   rw [if_neg c5] at H
   have c5b0 : (t143 == 11 && ((t144 == (-1) && (t145 == 0)) && (t146 == 99))) = false := by simpa using c5
   (try (have c5b1 : decide (t143 = 11 && ((t144 == (-1) && (t145 == 0)) && (t146 == 99))) = false := by simpa using c5))
   (try (have c5b2 : (t143 == 11 && ((t144 == (-1) && (t145 == 0)) && (t146 == 99))) = false := by simpa using c5))
   (try (have c5b3 : ¬ (t143 = 11 && ((t144 == (-1) && (t145 == 0)) && (t146 == 99))) := by simpa using c5))
   clear c5
 case' n2_ =>
  rw [if_neg c4] at H
  have c4b0 : (t147 == 0) = false := beq_eq_false_iff_ne.mpr c4
  have c4b1 : (t147 != 0) = true := bne_iff_ne.mpr c4
 all_goals
  obtain rfl := Option.some.inj H
  go_enter Try.func33, Try.ntmps33
  go_wp2_with (first | ((with_reducible refine gate_dst (N := 9) rfl ?_); refine Kd.R_lit k49 _ 49 ?hg (N := 9) ?hd (xs := ([(⟨10, (⟨0, 0⟩ : S37), 100⟩ : S49), (⟨14, (⟨(-3), 0⟩ : S37), 97⟩ : S49)] : List (S49))) (inner := [.int .i64 10, .int .i64 0, .int .i64 0, .int .i64 100, .int .i64 14, .int .i64 (-3), .int .i64 0, .int .i64 97]) (ok := fun _ => True) (okp := fun _ => True) ?hr ?hp (fun _ hk => hk) trivial (Below.refl _ _) (Nat.le_refl _) (by simp) ?_; (case hd => rfl); (case hg => rfl); (case hr => first | (go_simp; done) | (go_simp; rfl)); (case hp => exact (Reps.c4 (show Kd.M k49 _ _ _ (⟨10, (⟨0, 0⟩ : S37), 100⟩ : S49) [.int .i64 10, .int .i64 0, .int .i64 0, .int .i64 100] from (k49_mkM _ _ _ (⟨10, (⟨0, 0⟩ : S37), 100⟩ : S49) )) (Reps.c4 (show Kd.M k49 _ _ _ (⟨14, (⟨(-3), 0⟩ : S37), 97⟩ : S49) [.int .i64 14, .int .i64 (-3), .int .i64 0, .int .i64 97] from (k49_mkM _ _ _ (⟨14, (⟨(-3), 0⟩ : S37), 97⟩ : S49) )) (Reps.none _ _)))); intro v141 wx4f971 hox4f971 hb hg_ hnew_; clear hg_ hnew_; (first | rw [← Ny140.out] at hox4f971 | (simp only [Int.reduceToNat] at hox4f971; rw [← Ny140.out] at hox4f971)); have n0_ := Aside0.mk (Kd.R_lower hox4f971 (below_size (by repeat (first | (with_reducible first | exact HB.out | apply below_alloc | apply pw_below_drewN | apply below_drew1) | exact HB.out)))); have n1_ := Aside0.mk (below_step (by repeat (first | (with_reducible first | exact HB.out | apply below_alloc | apply pw_below_drewN | apply below_drew1) | exact HB.out)) hb); clear HB; have HO142 := n0_; have HB := n1_; clear n0_ n1_; clear hb hox4f971; obtain ⟨Aox4f971, cox4f971, eox4f971⟩ := Kd.R_slice HO142.out; subst eox4f971) | ((with_reducible refine gate_callee (f := 34) rfl ?_); refine goesL_ (some 10) rfl rfl Try.func34 (by kernel_rfl) rfl #[.slice Aox4f971 y140.length cox4f971, .int .i64 11] rfl (by (try simp only [List.map_toArray, List.map_cons, List.map_nil]); first | done | rfl | (simp only [List.length_drop, List.length_take]; rfl)) ?_; (with_reducible refine (fly_At.calls k _ _ y140 11 t143 t144 t145 t146 t147 _ ?side1 ?side2 A1.out).mono ?_); (case side1 => repeat (first | exact (Kd.R_reads' HO142.out).2.2 | (with_reducible refine Kd.C_alloc ?_ _) | (with_reducible refine Kd.C_drewN ?_ _) | (with_reducible refine Kd.C_drew ?_))); (case side2 => exact (Kd.R_reads' HO142.out).2.1); rintro e wxdb3f1 ⟨rfl, hb⟩; refine ⟨_, rfl, ?_⟩; have n0_ := Aside0.mk (Kd.R_below (by (with_reducible repeat (first | apply Kd.R_alloc | apply Kd.R_drewN | apply Kd.R_drew)); exact HO142.out) hb); have n1_ := Aside0.mk (below_step (by repeat (first | (with_reducible first | exact HB.out | apply below_alloc | apply pw_below_drewN | apply below_drew1) | exact HB.out)) hb); clear HO142; clear HB; have HO142 := n0_; have HB := n1_; clear n0_ n1_; (try clear hb); (try clear hb2); (try clear hk); (try clear hi)) | ((with_reducible refine gate_dst (N := 1) rfl ?_); refine box_event ?hg (N := 1) ?hd (cs := #[.int .i64 0, .int .i64 0, .int .i64 0, .int .i64 0]) (t := 49) ?hr ?_; (case hd => rfl); (case hg => rfl); (case hr => first | (go_simp; done) | (go_simp; rfl)); intro gb148 hg wx518e1 hbox hb; have n0_ := Aside0.mk (Kd.R_below (Kd.R_elderB (by (with_reducible repeat (first | apply Kd.R_alloc | apply Kd.R_drewN | apply Kd.R_drew)); exact HO142.out) gb148 (Nat.le_of_eq hg.symm)) hb); have n1_ := Aside0.mk (below_step (by repeat (first | (with_reducible first | exact HB.out | apply below_alloc | apply pw_below_drewN | apply below_drew1) | exact HB.out)) hb); have n2_ := Aside0.mk (hbox); have n3_ := Aside0.mk ((by rw [hg]; exact (below_size (by repeat (first | (with_reducible first | exact HB.out | apply below_alloc | apply pw_below_drewN | apply below_drew1) | exact HB.out))) : w.heap.size ≤ gb148)); have n4_ := Aside0.mk ((by rw [hg]; exact (below_size (by repeat (first | (with_reducible first | exact HB.out | apply below_alloc | apply pw_below_drewN | apply below_drew1) | exact HB.out))) : w.heap.size ≤ gb148)); clear HO142; clear HB; have HO142 := n0_; have HB := n1_; have BK148 := n2_; have GW148 := n3_; have GE148 := n4_; clear n0_ n1_ n2_ n3_ n4_; clear hb hbox hg; have hczx518e1 : wx518e1.cell? ⟨gb148, 0, none⟩ = some (.int .i64 0) := (blk_cell BK148.out 0).trans rfl; have hczx518e2 : wx518e1.cell? ⟨gb148, 1, none⟩ = some (.int .i64 0) := (blk_cell BK148.out 1).trans rfl; have hczx518e3 : wx518e1.cell? ⟨gb148, 2, none⟩ = some (.int .i64 0) := (blk_cell BK148.out 2).trans rfl; have hczx518e4 : wx518e1.cell? ⟨gb148, 3, none⟩ = some (.int .i64 0) := (blk_cell BK148.out 3).trans rfl; have hfzx518e1 := blk_frozen BK148.out 0; have hfzx518e2 := blk_frozen BK148.out 1; have hfzx518e3 := blk_frozen BK148.out 2; have hfzx518e4 := blk_frozen BK148.out 3) | ((with_reducible refine gate_callee (f := 53) rfl ?_); refine goesL_ (some 14) rfl rfl Try.func53 (by kernel_rfl) rfl #[] rfl (by (try simp only [List.map_toArray, List.map_cons, List.map_nil]); first | done | rfl | (simp only [List.length_drop, List.length_take]; rfl)) ?_; (with_reducible refine (skywaykeep1_jet.calls  t149 t150 t151 t152 t153 t154 t155 _ A2.out).mono ?_); rintro e wx64931 ⟨rfl, hb⟩; refine ⟨_, rfl, ?_⟩; have n0_ := Aside0.mk (Kd.R_below (by (with_reducible repeat (first | apply Kd.R_alloc | apply Kd.R_drewN | apply Kd.R_drew)); exact (Kd.R_mono (Kd.R_far (p := ⟨gb148, 3, none⟩) (Kd.R_far (p := ⟨gb148, 2, none⟩) (Kd.R_far (p := ⟨gb148, 1, none⟩) (Kd.R_far (p := ⟨gb148, 0, none⟩) (Kd.R_mono HO142.out (fun k_ hk => (⟨hk, hk.2⟩ : _ ∧ k_ ≠ gb148))) (fun _ hk => hk.2) (.int .i64 t143)) (fun _ hk => hk.2) (.int .i64 t144)) (fun _ hk => hk.2) (.int .i64 t145)) (fun _ hk => hk.2) (.int .i64 t146)) (fun _ h_ => h_.1))) hb); have n1_ := Aside0.mk (blk_below (g := gb148) (o := .cells #[.int .i64 t143, .int .i64 t144, .int .i64 t145, .int .i64 t146] 49 (0, 0)) (by (with_reducible repeat (first | refine blk_drewN ?_ _ | refine blk_drew ?_ | refine blk_alloc ?_ _)); refine blk_put (cs := #[.int .i64 t143, .int .i64 t144, .int .i64 t145, .int .i64 0]) ?_ 3 _ rfl; (with_reducible repeat (first | refine blk_drewN ?_ _ | refine blk_drew ?_ | refine blk_alloc ?_ _)); refine blk_put (cs := #[.int .i64 t143, .int .i64 t144, .int .i64 0, .int .i64 0]) ?_ 2 _ rfl; (with_reducible repeat (first | refine blk_drewN ?_ _ | refine blk_drew ?_ | refine blk_alloc ?_ _)); refine blk_put (cs := #[.int .i64 t143, .int .i64 0, .int .i64 0, .int .i64 0]) ?_ 1 _ rfl; (with_reducible repeat (first | refine blk_drewN ?_ _ | refine blk_drew ?_ | refine blk_alloc ?_ _)); refine blk_put (cs := #[.int .i64 0, .int .i64 0, .int .i64 0, .int .i64 0]) ?_ 0 _ rfl; (with_reducible repeat (first | refine blk_drewN ?_ _ | refine blk_drew ?_ | refine blk_alloc ?_ _)); exact BK148.out) hb); have n2_ := Aside0.mk (below_step (by repeat (first | (with_reducible first | exact HB.out | apply below_alloc | apply pw_below_drewN | apply below_drew1 | refine below_set ?_ GE148.out) | exact HB.out)) hb); clear HO142; clear BK148; clear HB; have HO142 := n0_; have BK148 := n1_; have HB := n2_; clear n0_ n1_ n2_; (try clear hb); (try clear hb2); (try clear hk); (try clear hi)) | ((with_reducible refine gate_callee (f := 41) rfl ?_); refine goesL_ (some 15) rfl rfl Try.func41 (by kernel_rfl) rfl #[.agg #[.string t149, .int .i64 t150, .int .i64 t151, .int .i64 t152, .int .i64 t153, .int .i64 t154, .int .i64 t155], .int .i64 1000, .int .i64 100, .int .i64 2] rfl (by (try simp only [List.map_toArray, List.map_cons, List.map_nil]); first | done | rfl | (simp only [List.length_drop, List.length_take]; rfl)) ?_; (with_reducible refine (fly_Profile.calls k t149 t150 t151 t152 t153 t154 t155 1000 100 2 t156 t157 _ A3.out).mono ?_); rintro e wx91311 ⟨rfl, hb⟩; refine ⟨_, rfl, ?_⟩; have n0_ := Aside0.mk (Kd.R_below (by (with_reducible repeat (first | apply Kd.R_alloc | apply Kd.R_drewN | apply Kd.R_drew)); exact HO142.out) hb); have n1_ := Aside0.mk (blk_below (g := gb148) (o := .cells #[.int .i64 t143, .int .i64 t144, .int .i64 t145, .int .i64 t146] 49 (0, 0)) (by (with_reducible repeat (first | refine blk_drewN ?_ _ | refine blk_drew ?_ | refine blk_alloc ?_ _)); exact BK148.out) hb); have n2_ := Aside0.mk (below_step (by repeat (first | (with_reducible first | exact HB.out | apply below_alloc | apply pw_below_drewN | apply below_drew1 | refine below_set ?_ GE148.out) | exact HB.out)) hb); clear HO142; clear BK148; clear HB; have HO142 := n0_; have BK148 := n1_; have HB := n2_; clear n0_ n1_ n2_; (try clear hb); (try clear hb2); (try clear hk); (try clear hi); have hczx91311 : wx91311.cell? ⟨gb148, 0, none⟩ = some (.int .i64 t143) := (blk_cell BK148.out 0).trans rfl; have hczx91312 : wx91311.cell? ⟨gb148, 1, none⟩ = some (.int .i64 t144) := (blk_cell BK148.out 1).trans rfl; have hczx91313 : wx91311.cell? ⟨gb148, 2, none⟩ = some (.int .i64 t145) := (blk_cell BK148.out 2).trans rfl; have hczx91314 : wx91311.cell? ⟨gb148, 3, none⟩ = some (.int .i64 t146) := (blk_cell BK148.out 3).trans rfl; have hfzx91311 := blk_frozen BK148.out 0; have hfzx91312 := blk_frozen BK148.out 1; have hfzx91313 := blk_frozen BK148.out 2; have hfzx91314 := blk_frozen BK148.out 3) | ((with_reducible refine gate_callee (f := 41) rfl ?_); refine goesL_ (some 15) rfl rfl Try.func41 (by kernel_rfl) rfl #[.agg #[.string t149, .int .i64 t150, .int .i64 t151, .int .i64 t152, .int .i64 t153, .int .i64 t154, .int .i64 t155], .int .i64 1000, .int .i64 100, .int .i64 2] rfl (by (try simp only [List.map_toArray, List.map_cons, List.map_nil]); first | done | rfl | (simp only [List.length_drop, List.length_take]; rfl)) ?_; (with_reducible refine (fly_Profile.calls k t149 t150 t151 t152 t153 t154 t155 1000 100 2 t156 t157 _ A3.out).mono ?_); rintro e wxaefb1 ⟨rfl, hb⟩; refine ⟨_, rfl, ?_⟩; have n0_ := Aside0.mk (Kd.R_below (by (with_reducible repeat (first | apply Kd.R_alloc | apply Kd.R_drewN | apply Kd.R_drew)); exact HO142.out) hb); have n1_ := Aside0.mk (blk_below (g := gb148) (o := .cells #[.int .i64 t143, .int .i64 t144, .int .i64 t145, .int .i64 t146] 49 (0, 0)) (by (with_reducible repeat (first | refine blk_drewN ?_ _ | refine blk_drew ?_ | refine blk_alloc ?_ _)); exact BK148.out) hb); have n2_ := Aside0.mk (below_step (by repeat (first | (with_reducible first | exact HB.out | apply below_alloc | apply pw_below_drewN | apply below_drew1 | refine below_set ?_ GE148.out) | exact HB.out)) hb); clear HO142; clear BK148; clear HB; have HO142 := n0_; have BK148 := n1_; have HB := n2_; clear n0_ n1_ n2_; (try clear hb); (try clear hb2); (try clear hk); (try clear hi)))
  go_ret
  exact ⟨by first | rfl | (simp [errW_none, errW_some] <;> rfl) | (simp [*, errW_none, errW_some] <;> rfl), by repeat (first | (with_reducible first | exact HB.out | apply below_alloc | apply pw_below_drewN | apply below_drew1 | refine below_set ?_ GE148.out) | exact HB.out)⟩

/-! ### num_DivUp: function 17 -/
def num_DivUp.f (k : Nat) (a0 : Int) (a1 : Int) : Option (Int × Int) := (num_DivDown.f k a0 a1).bind fun bt158 => (if bt158.2 = 0 then (if a1 = 0 then (none) else (if (Int.tmod a0 a1) = 0 then (some (bt158.1, bt158.2)) else (some (wrap64 (bt158.1 + 1), bt158.2)))) else (some (bt158.1, bt158.2)))
theorem num_DivUp.mono : ∀ a0 a1 k, LeO (num_DivUp.f k a0 a1) (num_DivUp.f (k + 1) a0 a1) := by
  intro a0 a1 k
  unfold num_DivUp.f
  repeat' first
      | (with_reducible exact num_DivDown.mono _ _ _)
      | (with_reducible exact LeO.refl _)
      | (with_reducible exact LeO.none _)
      | (with_reducible refine LeO.ite ?_ ?_)
      | (with_reducible refine LeO.bind ?_ (fun _ => ?_))
      | exact num_DivDown.mono _ _ _
      | exact LeO.none _
      | refine LeO.ite ?_ ?_
      | refine LeO.bind ?_ (fun _ => ?_)
set_option maxHeartbeats 8000000 in
set_option maxRecDepth 100000 in
theorem num_DivUp.calls (k : Nat) (a0 : Int) (a1 : Int) (r1 : Int) (r2 : Int) (w : World) (h : num_DivUp.f k a0 a1 = some (r1, r2)) :
    Calls Try.prog 17 #[.int .i64 a0, .int .i64 a1] w fun e w' => e = .returned (.tuple #[.int .i64 r1, .int .i64 r2]) ∧ Below w.heap.size w w' := by
 have HB := Aside0.mk (Below.refl w.heap.size w)
 have H : ((num_DivDown.f k a0 a1).bind fun bt158 => (if bt158.2 = 0 then (if a1 = 0 then (none) else (if (Int.tmod a0 a1) = 0 then (some (bt158.1, bt158.2)) else (some (wrap64 (bt158.1 + 1), bt158.2)))) else (some (bt158.1, bt158.2)))) = some (r1, r2) := h
 clear h
 replace H := Option.bind_eq_some_iff.mp H
 obtain ⟨⟨t158, t159⟩, A30, H⟩ := H
 replace H : (if t159 = 0 then (if a1 = 0 then (none) else (if (Int.tmod a0 a1) = 0 then (some (t158, t159)) else (some (wrap64 (t158 + 1), t159)))) else (some (t158, t159))) = some (r1, r2) := H
 have A3 := Aside0.mk A30
 clear A30
 refine Or.elim (Classical.em (t159 = 0)) (fun c4 => ?p2_) (fun c4 => ?n2_)
 case' p2_ =>
  rw [if_pos c4] at H
  have c4b0 : (t159 == 0) = true := beq_iff_eq.mpr c4
  have c4b1 : (t159 != 0) = false := bne_eq_false_iff_eq.mpr c4
  clear c4
  refine Or.elim (Classical.em (a1 = 0)) (fun c5 => ?p3_) (fun c5 => ?n3_)
  case' p3_ =>
   rw [if_pos c5] at H
   exact absurd H (by simp)
  case' n3_ =>
   rw [if_neg c5] at H
   have c5b0 : (a1 == 0) = false := beq_eq_false_iff_ne.mpr c5
   have c5b1 : (a1 != 0) = true := bne_iff_ne.mpr c5
   refine Or.elim (Classical.em ((Int.tmod a0 a1) = 0)) (fun c6 => ?p4_) (fun c6 => ?n4_)
   case' p4_ =>
    rw [if_pos c6] at H
    have c6b0 : ((Int.tmod a0 a1) == 0) = true := beq_iff_eq.mpr c6
    have c6b1 : ((Int.tmod a0 a1) != 0) = false := bne_eq_false_iff_eq.mpr c6
    clear c6
    simp only [Option.some.injEq, Prod.mk.injEq] at H
    obtain ⟨rfl, rfl⟩ := H
   case' n4_ =>
    rw [if_neg c6] at H
    have c6b0 : ((Int.tmod a0 a1) == 0) = false := beq_eq_false_iff_ne.mpr c6
    have c6b1 : ((Int.tmod a0 a1) != 0) = true := bne_iff_ne.mpr c6
    simp only [Option.some.injEq, Prod.mk.injEq] at H
    obtain ⟨rfl, rfl⟩ := H
 case' n2_ =>
  rw [if_neg c4] at H
  have c4b0 : (t159 == 0) = false := beq_eq_false_iff_ne.mpr c4
  have c4b1 : (t159 != 0) = true := bne_iff_ne.mpr c4
  simp only [Option.some.injEq, Prod.mk.injEq] at H
  obtain ⟨rfl, rfl⟩ := H
 all_goals
  go_enter Try.func17, Try.ntmps17
  go_wp2_with (first | ((with_reducible refine gate_callee (f := 16) rfl ?_); refine goesL_ (some 11) rfl rfl Try.func16 (by kernel_rfl) rfl #[.int .i64 a0, .int .i64 a1] rfl (by (try simp only [List.map_toArray, List.map_cons, List.map_nil]); first | done | rfl | (simp only [List.length_drop, List.length_take]; rfl)) ?_; (with_reducible refine (num_DivDown.calls k a0 a1 t158 t159 _ A3.out).mono ?_); rintro e wx76b51 ⟨rfl, hb⟩; refine ⟨_, rfl, ?_⟩; have n0_ := Aside0.mk (below_step (by repeat (first | (with_reducible first | exact HB.out | apply below_alloc | apply pw_below_drewN | apply below_drew1) | exact HB.out)) hb); clear HB; have HB := n0_; clear n0_; (try clear hb); (try clear hb2); (try clear hk); (try clear hi)))
  go_ret2
  exact ⟨by first | rfl | (simp [errW_none, errW_some] <;> rfl) | (simp [*, errW_none, errW_some] <;> rfl), by repeat (first | (with_reducible first | exact HB.out | apply below_alloc | apply pw_below_drewN | apply below_drew1) | exact HB.out)⟩

/-! ### aircraft_heights: function 63 -/
mutual
def aircraft_heights.l0 : Nat → List Int → List Int → Int → Int → ByteArray → Int → Int → Int → Int → Int → Int → Option (Int)
  | 0, _, _, _, _, _, _, _, _, _, _, _ => none
  | k + 1, x1, x15, x16, x17, x161000, x161001, x161002, x161003, x161004, x161005, x161006 => if x17 < x16 then (if 0 ≤ x17 then (if x17 < (x15.length : Int) then (if (rd x15 x17) < 0 then (some 4) else (if (rd x15 x17) > 60000 then (some 4) else (aircraft_heights.l0 k x1 x15 x16 (wrap64 (x17 + 1)) x161000 x161001 x161002 x161003 x161004 x161005 x161006))) else (none)) else (none)) else (aircraft_heights.l1 k x1 (x1.length : Int) 0 x161000 x161001 x161002 x161003 x161004 x161005 x161006)
def aircraft_heights.l1 : Nat → List Int → Int → Int → ByteArray → Int → Int → Int → Int → Int → Int → Option (Int)
  | 0, _, _, _, _, _, _, _, _, _, _ => none
  | k + 1, x28, x29, x30, x161000, x161001, x161002, x161003, x161004, x161005, x161006 => if x30 < x29 then (if 0 ≤ x30 then (if x30 < (x28.length : Int) then (if (rd x28 x30) > x161002 then (some 20) else (aircraft_heights.l1 k x28 x29 (wrap64 (x30 + 1)) x161000 x161001 x161002 x161003 x161004 x161005 x161006)) else (none)) else (none)) else (some 0)
end
def aircraft_heights.f (k : Nat) (a0_0 : ByteArray) (a0_1 : Int) (a0_2 : Int) (a0_3 : Int) (a0_4 : Int) (a0_5 : Int) (a0_6 : Int) (l1 : List Int) : Option (Int) := (aircraft_Check.f k a0_0 a0_1 a0_2 a0_3 a0_4 a0_5 a0_6).bind fun t161 => (if t161 = 0 then (aircraft_heights.l0 k l1 l1 (l1.length : Int) 0 a0_0 a0_1 a0_2 a0_3 a0_4 a0_5 a0_6) else (some t161))
theorem aircraft_heights.mono_l : ∀ k, (∀ y0 y1 y2 y3 y4 y5 y6 y7 y8 y9 y10, LeO (aircraft_heights.l0 k y0 y1 y2 y3 y4 y5 y6 y7 y8 y9 y10) (aircraft_heights.l0 (k + 1) y0 y1 y2 y3 y4 y5 y6 y7 y8 y9 y10)) ∧ (∀ y0 y1 y2 y3 y4 y5 y6 y7 y8 y9, LeO (aircraft_heights.l1 k y0 y1 y2 y3 y4 y5 y6 y7 y8 y9) (aircraft_heights.l1 (k + 1) y0 y1 y2 y3 y4 y5 y6 y7 y8 y9))
  | 0 => ⟨fun _ _ _ _ _ _ _ _ _ _ _ r h => by simp [aircraft_heights.l0] at h, fun _ _ _ _ _ _ _ _ _ _ r h => by simp [aircraft_heights.l1] at h⟩
  | k + 1 => by
    obtain ⟨ih0, ih1⟩ := aircraft_heights.mono_l k
    refine ⟨?_, ?_⟩
    · intro y0 y1 y2 y3 y4 y5 y6 y7 y8 y9 y10
      unfold aircraft_heights.l0
      repeat' first
      | (with_reducible exact ih0 _ _ _ _ _ _ _ _ _ _ _)
      | (with_reducible exact ih1 _ _ _ _ _ _ _ _ _ _)
      | (with_reducible exact aircraft_Check.mono _ _ _ _ _ _ _ _)
      | (with_reducible exact LeO.refl _)
      | (with_reducible exact LeO.none _)
      | (with_reducible refine LeO.ite ?_ ?_)
      | (with_reducible refine LeO.bind ?_ (fun _ => ?_))
      | exact ih0 _ _ _ _ _ _ _ _ _ _ _
      | exact ih1 _ _ _ _ _ _ _ _ _ _
      | exact aircraft_Check.mono _ _ _ _ _ _ _ _
      | exact LeO.none _
      | refine LeO.ite ?_ ?_
      | refine LeO.bind ?_ (fun _ => ?_)
    · intro y0 y1 y2 y3 y4 y5 y6 y7 y8 y9
      unfold aircraft_heights.l1
      repeat' first
      | (with_reducible exact ih0 _ _ _ _ _ _ _ _ _ _ _)
      | (with_reducible exact ih1 _ _ _ _ _ _ _ _ _ _)
      | (with_reducible exact aircraft_Check.mono _ _ _ _ _ _ _ _)
      | (with_reducible exact LeO.refl _)
      | (with_reducible exact LeO.none _)
      | (with_reducible refine LeO.ite ?_ ?_)
      | (with_reducible refine LeO.bind ?_ (fun _ => ?_))
      | exact ih0 _ _ _ _ _ _ _ _ _ _ _
      | exact ih1 _ _ _ _ _ _ _ _ _ _
      | exact aircraft_Check.mono _ _ _ _ _ _ _ _
      | exact LeO.none _
      | refine LeO.ite ?_ ?_
      | refine LeO.bind ?_ (fun _ => ?_)
theorem aircraft_heights.mono : ∀ a0 a1 a2 a3 a4 a5 a6 a7 k, LeO (aircraft_heights.f k a0 a1 a2 a3 a4 a5 a6 a7) (aircraft_heights.f (k + 1) a0 a1 a2 a3 a4 a5 a6 a7) := by
  intro a0 a1 a2 a3 a4 a5 a6 a7 k
  obtain ⟨ih0, ih1⟩ := aircraft_heights.mono_l k
  unfold aircraft_heights.f
  repeat' first
      | (with_reducible exact ih0 _ _ _ _ _ _ _ _ _ _ _)
      | (with_reducible exact ih1 _ _ _ _ _ _ _ _ _ _)
      | (with_reducible exact aircraft_Check.mono _ _ _ _ _ _ _ _)
      | (with_reducible exact LeO.refl _)
      | (with_reducible exact LeO.none _)
      | (with_reducible refine LeO.ite ?_ ?_)
      | (with_reducible refine LeO.bind ?_ (fun _ => ?_))
      | exact ih0 _ _ _ _ _ _ _ _ _ _ _
      | exact ih1 _ _ _ _ _ _ _ _ _ _
      | exact aircraft_Check.mono _ _ _ _ _ _ _ _
      | exact LeO.none _
      | refine LeO.ite ?_ ?_
      | refine LeO.bind ?_ (fun _ => ?_)
set_option maxHeartbeats 8000000 in
set_option maxRecDepth 100000 in
theorem aircraft_heights.calls (k : Nat) (a0_0 : ByteArray) (a0_1 : Int) (a0_2 : Int) (a0_3 : Int) (a0_4 : Int) (a0_5 : Int) (a0_6 : Int) (A1 : Option Addr) (c1 : Nat) (l1 : List Int) (r : Int) (w : World) (hr1 : Kd.C (Kd.int .i64) w A1 l1.length l1) (hc1 : l1.length ≤ c1) (h : aircraft_heights.f k a0_0 a0_1 a0_2 a0_3 a0_4 a0_5 a0_6 l1 = some r) :
    Calls Try.prog 63 #[.agg #[.string a0_0, .int .i64 a0_1, .int .i64 a0_2, .int .i64 a0_3, .int .i64 a0_4, .int .i64 a0_5, .int .i64 a0_6], .slice A1 l1.length c1] w fun e w' => e = .returned (.int .i64 r) ∧ Below w.heap.size w w' := by
 have hu63 := Try.underlying63
 have HR1 := Aside0.mk hr1
 have HC1 := Aside0.mk hc1
 clear hr1 hc1
 have HB := Aside0.mk (Below.refl w.heap.size w)
 have H : ((aircraft_Check.f k a0_0 a0_1 a0_2 a0_3 a0_4 a0_5 a0_6).bind fun t161 => (if t161 = 0 then (aircraft_heights.l0 k l1 l1 (l1.length : Int) 0 a0_0 a0_1 a0_2 a0_3 a0_4 a0_5 a0_6) else (some t161))) = some r := h
 clear h
 replace H := Option.bind_eq_some_iff.mp H
 obtain ⟨t161, A30, H⟩ := H
 replace H : (if t161 = 0 then (aircraft_heights.l0 k l1 l1 (l1.length : Int) 0 a0_0 a0_1 a0_2 a0_3 a0_4 a0_5 a0_6) else (some t161)) = some r := H
 have A3 := Aside0.mk A30
 clear A30
 by_cases c4 : t161 = 0
 · rw [if_pos c4] at H
   have c4b0 : (t161 == 0) = true := beq_iff_eq.mpr c4
   have c4b1 : (t161 != 0) = false := bne_eq_false_iff_eq.mpr c4
   clear c4
   have H' := Aside0.mk H
   clear H
   go_enter Try.func63, Try.ntmps63
   go_wp2_with (first | ((with_reducible refine gate_dst (N := 2) rfl ?_); refine box_event ?hg (N := 2) ?hd (cs := #[.string a0_0, .int .i64 a0_1, .int .i64 a0_2, .int .i64 a0_3, .int .i64 a0_4, .int .i64 a0_5, .int .i64 a0_6]) (t := 63) ?hr ?_; (case hd => rfl); (case hg => rfl); (case hr => first | (go_simp; done) | (go_simp; rfl)); intro gb160 hg wxc2e11 hbox hb; have n0_ := Aside0.mk (below_step (by repeat (first | (with_reducible first | exact HB.out | apply below_alloc | apply pw_below_drewN | apply below_drew1) | exact HB.out)) hb); have n1_ := Aside0.mk (hbox); have n2_ := Aside0.mk ((by rw [hg]; exact (below_size (by repeat (first | (with_reducible first | exact HB.out | apply below_alloc | apply pw_below_drewN | apply below_drew1) | exact HB.out))) : w.heap.size ≤ gb160)); have n3_ := Aside0.mk ((by rw [hg]; exact (below_size (by repeat (first | (with_reducible first | exact HB.out | apply below_alloc | apply pw_below_drewN | apply below_drew1) | exact HB.out))) : w.heap.size ≤ gb160)); clear HB; have HB := n0_; have BK160 := n1_; have GW160 := n2_; have GE160 := n3_; clear n0_ n1_ n2_ n3_; clear hb hbox hg; have hczxc2e11 : wxc2e11.cell? ⟨gb160, 0, none⟩ = some (.string a0_0) := (blk_cell BK160.out 0).trans rfl; have hczxc2e12 : wxc2e11.cell? ⟨gb160, 1, none⟩ = some (.int .i64 a0_1) := (blk_cell BK160.out 1).trans rfl; have hczxc2e13 : wxc2e11.cell? ⟨gb160, 2, none⟩ = some (.int .i64 a0_2) := (blk_cell BK160.out 2).trans rfl; have hczxc2e14 : wxc2e11.cell? ⟨gb160, 3, none⟩ = some (.int .i64 a0_3) := (blk_cell BK160.out 3).trans rfl; have hczxc2e15 : wxc2e11.cell? ⟨gb160, 4, none⟩ = some (.int .i64 a0_4) := (blk_cell BK160.out 4).trans rfl; have hczxc2e16 : wxc2e11.cell? ⟨gb160, 5, none⟩ = some (.int .i64 a0_5) := (blk_cell BK160.out 5).trans rfl; have hczxc2e17 : wxc2e11.cell? ⟨gb160, 6, none⟩ = some (.int .i64 a0_6) := (blk_cell BK160.out 6).trans rfl; have hfzxc2e11 := blk_frozen BK160.out 0; have hfzxc2e12 := blk_frozen BK160.out 1; have hfzxc2e13 := blk_frozen BK160.out 2; have hfzxc2e14 := blk_frozen BK160.out 3; have hfzxc2e15 := blk_frozen BK160.out 4; have hfzxc2e16 := blk_frozen BK160.out 5; have hfzxc2e17 := blk_frozen BK160.out 6) | ((with_reducible refine gate_callee (f := 62) rfl ?_); refine goesL_ (some 11) rfl rfl Try.func62 (by kernel_rfl) rfl #[.agg #[.string a0_0, .int .i64 a0_1, .int .i64 a0_2, .int .i64 a0_3, .int .i64 a0_4, .int .i64 a0_5, .int .i64 a0_6]] rfl (by (try simp only [List.map_toArray, List.map_cons, List.map_nil]); first | done | rfl | (simp only [List.length_drop, List.length_take]; rfl)) ?_; (with_reducible refine (aircraft_Check.calls k a0_0 a0_1 a0_2 a0_3 a0_4 a0_5 a0_6 t161 _ A3.out).mono ?_); rintro e wxed631 ⟨rfl, hb⟩; refine ⟨_, rfl, ?_⟩; have n0_ := Aside0.mk (blk_below (g := gb160) (o := .cells #[.string a0_0, .int .i64 a0_1, .int .i64 a0_2, .int .i64 a0_3, .int .i64 a0_4, .int .i64 a0_5, .int .i64 a0_6] 63 (0, 0)) (by (with_reducible repeat (first | refine blk_drewN ?_ _ | refine blk_drew ?_ | refine blk_alloc ?_ _)); exact BK160.out) hb); have n1_ := Aside0.mk (below_step (by repeat (first | (with_reducible first | exact HB.out | apply below_alloc | apply pw_below_drewN | apply below_drew1 | refine below_set ?_ GE160.out) | exact HB.out)) hb); clear BK160; clear HB; have BK160 := n0_; have HB := n1_; clear n0_ n1_; (try clear hb); (try clear hb2); (try clear hk); (try clear hi)))
   go_loopg [17] k (fun kq v17 w' => ∃ (x17_1 : Int), v17 = .int .i64 x17_1 ∧ Aside0 (aircraft_heights.l0 kq l1 l1 (l1.length : Int) x17_1 a0_0 a0_1 a0_2 a0_3 a0_4 a0_5 a0_6 = some r) ∧ Aside0 (kq ≤ k) ∧ Aside0 (w'.heap[gb160]? = some (.cells #[.string a0_0, .int .i64 a0_1, .int .i64 a0_2, .int .i64 a0_3, .int .i64 a0_4, .int .i64 a0_5, .int .i64 a0_6] 63 (0, 0))) ∧ Aside0 (Below w.heap.size w w'))
   case atStart => exact ⟨(0), (by first | rfl | (simp; done) | (simp [*]; done)), H', ⟨Nat.le_refl _⟩, ⟨by (with_reducible repeat (first | refine blk_drewN ?_ _ | refine blk_drew ?_ | refine blk_alloc ?_ _)); exact BK160.out⟩, ⟨by repeat (first | (with_reducible first | exact HB.out | apply below_alloc | apply pw_below_drewN | apply below_drew1 | refine below_set ?_ GE160.out) | exact HB.out)⟩⟩
   case round =>
    clear H'
    (try clear c1); (try clear p2); (try clear c4); (try clear c4b0); (try clear c4b1); (try clear c6); (try clear hczxc2e11); (try clear hczxc2e12); (try clear hczxc2e13); (try clear hczxc2e14); (try clear hczxc2e15); (try clear hczxc2e16); (try clear hczxc2e17); (try clear hfzxc2e11); (try clear hfzxc2e12); (try clear hfzxc2e13); (try clear hfzxc2e14); (try clear hfzxc2e15); (try clear hfzxc2e16); (try clear hfzxc2e17)
    obtain ⟨x17_1, rfl, HA, HK1, BK160, HB⟩ := hrel
    cases gk with
    | zero => exact absurd HA.out (by simp [aircraft_heights.l0])
    | succ k1 =>
     have H := HA.out
     clear HA
     simp only [aircraft_heights.l0] at H
     refine Or.elim (Classical.em (x17_1 < (l1.length : Int))) (fun c8 => ?p2_) (fun c8 => ?n2_)
     case' p2_ =>
      rw [if_pos c8] at H
      have c8b0 : decide (x17_1 < (l1.length : Int)) = true := decide_eq_true c8
      clear c8
      refine Or.elim (Classical.em (0 ≤ x17_1)) (fun c9 => ?p3_) (fun c9 => ?n3_)
      case' p3_ =>
       rw [if_pos c9] at H
       have c9b0 : decide (0 ≤ x17_1) = true := decide_eq_true c9
       clear c9
       refine Or.elim (Classical.em (x17_1 < (l1.length : Int))) (fun c10 => ?p4_) (fun c10 => ?n4_)
       case' p4_ =>
        rw [if_pos c10] at H
        have c10b0 : decide (x17_1 < (l1.length : Int)) = true := decide_eq_true c10
        clear c10
        refine Or.elim (Classical.em ((rd l1 x17_1) < 0)) (fun c11 => ?p5_) (fun c11 => ?n5_)
        case' p5_ =>
         rw [if_pos c11] at H
         have c11b0 : decide ((rd l1 x17_1) < 0) = true := decide_eq_true c11
         clear c11
         have hm1_0 := Aside0.mk trivial
        case' n5_ =>
         rw [if_neg c11] at H
         have c11b0 : decide ((rd l1 x17_1) < 0) = false := decide_eq_false c11
         clear c11
         refine Or.elim (Classical.em ((rd l1 x17_1) > 60000)) (fun c12 => ?p6_) (fun c12 => ?n6_)
         case' p6_ =>
          rw [if_pos c12] at H
          have c12b0 : decide (60000 < (rd l1 x17_1)) = true := decide_eq_true c12
          clear c12
          have hm1_0 := Aside0.mk trivial
         case' n6_ =>
          rw [if_neg c12] at H
          have c12b0 : decide (60000 < (rd l1 x17_1)) = false := decide_eq_false c12
          clear c12
          have hm1_1 := Aside0.mk trivial
       case' n4_ =>
        rw [if_neg c10] at H
        exact absurd H (by simp)
      case' n3_ =>
       rw [if_neg c9] at H
       exact absurd H (by simp)
     case' n2_ =>
      rw [if_neg c8] at H
      have c8b0 : decide (x17_1 < (l1.length : Int)) = false := decide_eq_false c8
      clear c8
      have hm1_2 := Aside0.mk trivial
     all_goals
      first
       | clear hm1_0
         obtain rfl := Option.some.inj H
         have p162 : 0 ≤ (x17_1 : Int) := of_decide_eq_true (by first | (with_reducible assumption) | assumption)
         have q162 : x17_1 < (l1.length : Int) := of_decide_eq_true (by first | (with_reducible assumption) | assumption)
         obtain ⟨ad162, e162, hx162_0⟩ := Kd.at_int HR1.out x17_1 p162 q162
         cases e162
         replace hx162_0 := (HB.out.cell (World.block_lt_of_cell? w _ hx162_0)).trans hx162_0
         replace p162 := eq_true p162
         replace q162 := eq_true q162
         go_wp2
         go_ret
         exact ⟨by first | rfl | (simp [errW_none, errW_some] <;> rfl) | (simp [*, errW_none, errW_some] <;> rfl), by repeat (first | (with_reducible first | exact HB.out | apply below_alloc | apply pw_below_drewN | apply below_drew1 | refine below_set ?_ GE160.out) | exact HB.out)⟩
       | (first | (have _hm := hm1_1) | (have _hm := hm1_2))
         have H' := Aside0.mk H
         clear H
         first
          | clear hm1_1
            have p162 : 0 ≤ (x17_1 : Int) := of_decide_eq_true (by first | (with_reducible assumption) | assumption)
            have q162 : x17_1 < (l1.length : Int) := of_decide_eq_true (by first | (with_reducible assumption) | assumption)
            obtain ⟨ad162, e162, hx162_0⟩ := Kd.at_int HR1.out x17_1 p162 q162
            cases e162
            replace hx162_0 := (HB.out.cell (World.block_lt_of_cell? w _ hx162_0)).trans hx162_0
            replace p162 := eq_true p162
            replace q162 := eq_true q162
            go_wp2
            go_roundg k1
            case measure => have := HK1.out; omega
            case rel => exact ⟨(wrap64 (x17_1 + 1)), (by first | rfl | (simp; done) | (simp [*]; done)), H', ⟨by have := HK1.out; omega⟩, ⟨by (with_reducible repeat (first | refine blk_drewN ?_ _ | refine blk_drew ?_ | refine blk_alloc ?_ _)); exact BK160.out⟩, ⟨by repeat (first | (with_reducible first | exact HB.out | apply below_alloc | apply pw_below_drewN | apply below_drew1 | refine below_set ?_ GE160.out) | exact HB.out)⟩⟩
          | clear hm1_2
            go_wp2
            go_loopg [30] k1 (fun kq v30 w' => ∃ (x30_2 : Int), v30 = .int .i64 x30_2 ∧ Aside0 (aircraft_heights.l1 kq l1 (l1.length : Int) x30_2 a0_0 a0_1 a0_2 a0_3 a0_4 a0_5 a0_6 = some r) ∧ Aside0 (kq ≤ k1) ∧ Aside0 (w'.heap[gb160]? = some (.cells #[.string a0_0, .int .i64 a0_1, .int .i64 a0_2, .int .i64 a0_3, .int .i64 a0_4, .int .i64 a0_5, .int .i64 a0_6] 63 (0, 0))) ∧ Aside0 (Below w.heap.size w w'))
            case atStart => exact ⟨(0), (by first | rfl | (simp; done) | (simp [*]; done)), H', ⟨Nat.le_refl _⟩, ⟨by (with_reducible repeat (first | refine blk_drewN ?_ _ | refine blk_drew ?_ | refine blk_alloc ?_ _)); exact BK160.out⟩, ⟨by repeat (first | (with_reducible first | exact HB.out | apply below_alloc | apply pw_below_drewN | apply below_drew1 | refine below_set ?_ GE160.out) | exact HB.out)⟩⟩
            case round =>
             clear H'
             (try clear c1); (try clear p1); (try clear q1); (try clear hx1); (try clear p2); (try clear c4); (try clear c4b0); (try clear c4b1); (try clear c6); (try clear p6); (try clear c8); (try clear c8b0); (try clear c9); (try clear c9b0); (try clear c10); (try clear c10b0); (try clear c11); (try clear c11b0); (try clear c12); (try clear c12b0); (try clear hczxc2e11); (try clear hczxc2e12); (try clear hczxc2e13); (try clear hczxc2e14); (try clear hczxc2e15); (try clear hczxc2e16); (try clear hczxc2e17); (try clear hfzxc2e11); (try clear hfzxc2e12); (try clear hfzxc2e13); (try clear hfzxc2e14); (try clear hfzxc2e15); (try clear hfzxc2e16); (try clear hfzxc2e17); (try clear hx162_0); (try clear p162); (try clear p2); (try clear q162)
             obtain ⟨x30_2, rfl, HA, HK2, BK160, HB⟩ := hrel
             cases gk with
             | zero => exact absurd HA.out (by simp [aircraft_heights.l1])
             | succ k2 =>
              have H := HA.out
              clear HA
              simp only [aircraft_heights.l1] at H
              refine Or.elim (Classical.em (x30_2 < (l1.length : Int))) (fun c13 => ?p8_) (fun c13 => ?n8_)
              case' p8_ =>
               rw [if_pos c13] at H
               have c13b0 : decide (x30_2 < (l1.length : Int)) = true := decide_eq_true c13
               clear c13
               refine Or.elim (Classical.em (0 ≤ x30_2)) (fun c14 => ?p9_) (fun c14 => ?n9_)
               case' p9_ =>
                rw [if_pos c14] at H
                have c14b0 : decide (0 ≤ x30_2) = true := decide_eq_true c14
                clear c14
                refine Or.elim (Classical.em (x30_2 < (l1.length : Int))) (fun c15 => ?p10_) (fun c15 => ?n10_)
                case' p10_ =>
                 rw [if_pos c15] at H
                 have c15b0 : decide (x30_2 < (l1.length : Int)) = true := decide_eq_true c15
                 clear c15
                 refine Or.elim (Classical.em ((rd l1 x30_2) > a0_2)) (fun c16 => ?p11_) (fun c16 => ?n11_)
                 case' p11_ =>
                  rw [if_pos c16] at H
                  have c16b0 : decide (a0_2 < (rd l1 x30_2)) = true := decide_eq_true c16
                  clear c16
                  have hm7_0 := Aside0.mk trivial
                 case' n11_ =>
                  rw [if_neg c16] at H
                  have c16b0 : decide (a0_2 < (rd l1 x30_2)) = false := decide_eq_false c16
                  clear c16
                  have hm7_1 := Aside0.mk trivial
                case' n10_ =>
                 rw [if_neg c15] at H
                 exact absurd H (by simp)
               case' n9_ =>
                rw [if_neg c14] at H
                exact absurd H (by simp)
              case' n8_ =>
               rw [if_neg c13] at H
               have c13b0 : decide (x30_2 < (l1.length : Int)) = false := decide_eq_false c13
               clear c13
               have hm7_2 := Aside0.mk trivial
              all_goals
               first
                | (first | (have _hm := hm7_0) | (have _hm := hm7_2))
                  obtain rfl := Option.some.inj H
                  first
                   | clear hm7_0
                     have p163 : 0 ≤ (x30_2 : Int) := of_decide_eq_true (by first | (with_reducible assumption) | assumption)
                     have q163 : x30_2 < (l1.length : Int) := of_decide_eq_true (by first | (with_reducible assumption) | assumption)
                     obtain ⟨ad163, e163, hx163_0⟩ := Kd.at_int HR1.out x30_2 p163 q163
                     cases e163
                     replace hx163_0 := (HB.out.cell (World.block_lt_of_cell? w _ hx163_0)).trans hx163_0
                     replace p163 := eq_true p163
                     replace q163 := eq_true q163
                     have hczz1 : wr.cell? ⟨gb160, 0, none⟩ = some (.string a0_0) := (blk_cell BK160.out 0).trans rfl
                     have hczz2 : wr.cell? ⟨gb160, 1, none⟩ = some (.int .i64 a0_1) := (blk_cell BK160.out 1).trans rfl
                     have hczz3 : wr.cell? ⟨gb160, 2, none⟩ = some (.int .i64 a0_2) := (blk_cell BK160.out 2).trans rfl
                     have hczz4 : wr.cell? ⟨gb160, 3, none⟩ = some (.int .i64 a0_3) := (blk_cell BK160.out 3).trans rfl
                     have hczz5 : wr.cell? ⟨gb160, 4, none⟩ = some (.int .i64 a0_4) := (blk_cell BK160.out 4).trans rfl
                     have hczz6 : wr.cell? ⟨gb160, 5, none⟩ = some (.int .i64 a0_5) := (blk_cell BK160.out 5).trans rfl
                     have hczz7 : wr.cell? ⟨gb160, 6, none⟩ = some (.int .i64 a0_6) := (blk_cell BK160.out 6).trans rfl
                     have hfzz1 := blk_frozen BK160.out 0
                     have hfzz2 := blk_frozen BK160.out 1
                     have hfzz3 := blk_frozen BK160.out 2
                     have hfzz4 := blk_frozen BK160.out 3
                     have hfzz5 := blk_frozen BK160.out 4
                     have hfzz6 := blk_frozen BK160.out 5
                     have hfzz7 := blk_frozen BK160.out 6
                     go_wp2
                     go_ret
                     exact ⟨by first | rfl | (simp [errW_none, errW_some] <;> rfl) | (simp [*, errW_none, errW_some] <;> rfl), by repeat (first | (with_reducible first | exact HB.out | apply below_alloc | apply pw_below_drewN | apply below_drew1 | refine below_set ?_ GE160.out) | exact HB.out)⟩
                   | clear hm7_2
                     go_wp2
                     go_ret
                     exact ⟨by first | rfl | (simp [errW_none, errW_some] <;> rfl) | (simp [*, errW_none, errW_some] <;> rfl), by repeat (first | (with_reducible first | exact HB.out | apply below_alloc | apply pw_below_drewN | apply below_drew1 | refine below_set ?_ GE160.out) | exact HB.out)⟩
                | clear hm7_1
                  have H' := Aside0.mk H
                  clear H
                  have p163 : 0 ≤ (x30_2 : Int) := of_decide_eq_true (by first | (with_reducible assumption) | assumption)
                  have q163 : x30_2 < (l1.length : Int) := of_decide_eq_true (by first | (with_reducible assumption) | assumption)
                  obtain ⟨ad163, e163, hx163_0⟩ := Kd.at_int HR1.out x30_2 p163 q163
                  cases e163
                  replace hx163_0 := (HB.out.cell (World.block_lt_of_cell? w _ hx163_0)).trans hx163_0
                  replace p163 := eq_true p163
                  replace q163 := eq_true q163
                  have hczz8 : wr.cell? ⟨gb160, 0, none⟩ = some (.string a0_0) := (blk_cell BK160.out 0).trans rfl
                  have hczz9 : wr.cell? ⟨gb160, 1, none⟩ = some (.int .i64 a0_1) := (blk_cell BK160.out 1).trans rfl
                  have hczz10 : wr.cell? ⟨gb160, 2, none⟩ = some (.int .i64 a0_2) := (blk_cell BK160.out 2).trans rfl
                  have hczz11 : wr.cell? ⟨gb160, 3, none⟩ = some (.int .i64 a0_3) := (blk_cell BK160.out 3).trans rfl
                  have hczz12 : wr.cell? ⟨gb160, 4, none⟩ = some (.int .i64 a0_4) := (blk_cell BK160.out 4).trans rfl
                  have hczz13 : wr.cell? ⟨gb160, 5, none⟩ = some (.int .i64 a0_5) := (blk_cell BK160.out 5).trans rfl
                  have hczz14 : wr.cell? ⟨gb160, 6, none⟩ = some (.int .i64 a0_6) := (blk_cell BK160.out 6).trans rfl
                  have hfzz8 := blk_frozen BK160.out 0
                  have hfzz9 := blk_frozen BK160.out 1
                  have hfzz10 := blk_frozen BK160.out 2
                  have hfzz11 := blk_frozen BK160.out 3
                  have hfzz12 := blk_frozen BK160.out 4
                  have hfzz13 := blk_frozen BK160.out 5
                  have hfzz14 := blk_frozen BK160.out 6
                  go_wp2
                  go_roundg k2
                  case measure => have := HK1.out; have := HK2.out; omega
                  case rel => exact ⟨(wrap64 (x30_2 + 1)), (by first | rfl | (simp; done) | (simp [*]; done)), H', ⟨by have := HK1.out; have := HK2.out; omega⟩, ⟨by (with_reducible repeat (first | refine blk_drewN ?_ _ | refine blk_drew ?_ | refine blk_alloc ?_ _)); exact BK160.out⟩, ⟨by repeat (first | (with_reducible first | exact HB.out | apply below_alloc | apply pw_below_drewN | apply below_drew1 | refine below_set ?_ GE160.out) | exact HB.out)⟩⟩
 · rw [if_neg c4] at H
   have c4b0 : (t161 == 0) = false := beq_eq_false_iff_ne.mpr c4
   have c4b1 : (t161 != 0) = true := bne_iff_ne.mpr c4
   obtain rfl := Option.some.inj H
   go_enter Try.func63, Try.ntmps63
   go_wp2_with (first | ((with_reducible refine gate_dst (N := 2) rfl ?_); refine box_event ?hg (N := 2) ?hd (cs := #[.string a0_0, .int .i64 a0_1, .int .i64 a0_2, .int .i64 a0_3, .int .i64 a0_4, .int .i64 a0_5, .int .i64 a0_6]) (t := 63) ?hr ?_; (case hd => rfl); (case hg => rfl); (case hr => first | (go_simp; done) | (go_simp; rfl)); intro gb160 hg wxc2e11 hbox hb; have n0_ := Aside0.mk (below_step (by repeat (first | (with_reducible first | exact HB.out | apply below_alloc | apply pw_below_drewN | apply below_drew1) | exact HB.out)) hb); have n1_ := Aside0.mk (hbox); have n2_ := Aside0.mk ((by rw [hg]; exact (below_size (by repeat (first | (with_reducible first | exact HB.out | apply below_alloc | apply pw_below_drewN | apply below_drew1) | exact HB.out))) : w.heap.size ≤ gb160)); have n3_ := Aside0.mk ((by rw [hg]; exact (below_size (by repeat (first | (with_reducible first | exact HB.out | apply below_alloc | apply pw_below_drewN | apply below_drew1) | exact HB.out))) : w.heap.size ≤ gb160)); clear HB; have HB := n0_; have BK160 := n1_; have GW160 := n2_; have GE160 := n3_; clear n0_ n1_ n2_ n3_; clear hb hbox hg; have hczxc2e11 : wxc2e11.cell? ⟨gb160, 0, none⟩ = some (.string a0_0) := (blk_cell BK160.out 0).trans rfl; have hczxc2e12 : wxc2e11.cell? ⟨gb160, 1, none⟩ = some (.int .i64 a0_1) := (blk_cell BK160.out 1).trans rfl; have hczxc2e13 : wxc2e11.cell? ⟨gb160, 2, none⟩ = some (.int .i64 a0_2) := (blk_cell BK160.out 2).trans rfl; have hczxc2e14 : wxc2e11.cell? ⟨gb160, 3, none⟩ = some (.int .i64 a0_3) := (blk_cell BK160.out 3).trans rfl; have hczxc2e15 : wxc2e11.cell? ⟨gb160, 4, none⟩ = some (.int .i64 a0_4) := (blk_cell BK160.out 4).trans rfl; have hczxc2e16 : wxc2e11.cell? ⟨gb160, 5, none⟩ = some (.int .i64 a0_5) := (blk_cell BK160.out 5).trans rfl; have hczxc2e17 : wxc2e11.cell? ⟨gb160, 6, none⟩ = some (.int .i64 a0_6) := (blk_cell BK160.out 6).trans rfl; have hfzxc2e11 := blk_frozen BK160.out 0; have hfzxc2e12 := blk_frozen BK160.out 1; have hfzxc2e13 := blk_frozen BK160.out 2; have hfzxc2e14 := blk_frozen BK160.out 3; have hfzxc2e15 := blk_frozen BK160.out 4; have hfzxc2e16 := blk_frozen BK160.out 5; have hfzxc2e17 := blk_frozen BK160.out 6) | ((with_reducible refine gate_callee (f := 62) rfl ?_); refine goesL_ (some 11) rfl rfl Try.func62 (by kernel_rfl) rfl #[.agg #[.string a0_0, .int .i64 a0_1, .int .i64 a0_2, .int .i64 a0_3, .int .i64 a0_4, .int .i64 a0_5, .int .i64 a0_6]] rfl (by (try simp only [List.map_toArray, List.map_cons, List.map_nil]); first | done | rfl | (simp only [List.length_drop, List.length_take]; rfl)) ?_; (with_reducible refine (aircraft_Check.calls k a0_0 a0_1 a0_2 a0_3 a0_4 a0_5 a0_6 t161 _ A3.out).mono ?_); rintro e wxed631 ⟨rfl, hb⟩; refine ⟨_, rfl, ?_⟩; have n0_ := Aside0.mk (blk_below (g := gb160) (o := .cells #[.string a0_0, .int .i64 a0_1, .int .i64 a0_2, .int .i64 a0_3, .int .i64 a0_4, .int .i64 a0_5, .int .i64 a0_6] 63 (0, 0)) (by (with_reducible repeat (first | refine blk_drewN ?_ _ | refine blk_drew ?_ | refine blk_alloc ?_ _)); exact BK160.out) hb); have n1_ := Aside0.mk (below_step (by repeat (first | (with_reducible first | exact HB.out | apply below_alloc | apply pw_below_drewN | apply below_drew1 | refine below_set ?_ GE160.out) | exact HB.out)) hb); clear BK160; clear HB; have BK160 := n0_; have HB := n1_; clear n0_ n1_; (try clear hb); (try clear hb2); (try clear hk); (try clear hi)))
   go_ret
   exact ⟨by first | rfl | (simp [errW_none, errW_some] <;> rfl) | (simp [*, errW_none, errW_some] <;> rfl), by repeat (first | (with_reducible first | exact HB.out | apply below_alloc | apply pw_below_drewN | apply below_drew1 | refine below_set ?_ GE160.out) | exact HB.out)⟩

/-! ### aircraft_Climb: function 42 -/
def aircraft_Climb.f (k : Nat) (a0_0 : ByteArray) (a0_1 : Int) (a0_2 : Int) (a0_3 : Int) (a0_4 : Int) (a0_5 : Int) (a0_6 : Int) (a1 : Int) (a2 : Int) : Option (Int × Int) := (aircraft_heights.f k a0_0 a0_1 a0_2 a0_3 a0_4 a0_5 a0_6 (([a1, a2] : List Int))).bind fun t168 => (if t168 = 0 then (if a2 ≥ a1 then ((num_DivUp.f k (wrap64 (a2 - a1)) a0_3).bind fun bt169 => (some (bt169.1, bt169.2))) else ((num_DivUp.f k (wrap64 (a1 - a2)) a0_4).bind fun bt171 => (some (bt171.1, bt171.2)))) else (some (0, t168)))
theorem aircraft_Climb.mono : ∀ a0 a1 a2 a3 a4 a5 a6 a7 a8 k, LeO (aircraft_Climb.f k a0 a1 a2 a3 a4 a5 a6 a7 a8) (aircraft_Climb.f (k + 1) a0 a1 a2 a3 a4 a5 a6 a7 a8) := by
  intro a0 a1 a2 a3 a4 a5 a6 a7 a8 k
  unfold aircraft_Climb.f
  repeat' first
      | (with_reducible exact aircraft_heights.mono _ _ _ _ _ _ _ _ _)
      | (with_reducible exact num_DivUp.mono _ _ _)
      | (with_reducible exact LeO.refl _)
      | (with_reducible exact LeO.none _)
      | (with_reducible refine LeO.ite ?_ ?_)
      | (with_reducible refine LeO.bind ?_ (fun _ => ?_))
      | exact aircraft_heights.mono _ _ _ _ _ _ _ _ _
      | exact num_DivUp.mono _ _ _
      | exact LeO.none _
      | refine LeO.ite ?_ ?_
      | refine LeO.bind ?_ (fun _ => ?_)
set_option maxHeartbeats 8000000 in
set_option maxRecDepth 100000 in
theorem aircraft_Climb.calls (k : Nat) (a0_0 : ByteArray) (a0_1 : Int) (a0_2 : Int) (a0_3 : Int) (a0_4 : Int) (a0_5 : Int) (a0_6 : Int) (a1 : Int) (a2 : Int) (r1 : Int) (r2 : Int) (w : World) (h : aircraft_Climb.f k a0_0 a0_1 a0_2 a0_3 a0_4 a0_5 a0_6 a1 a2 = some (r1, r2)) :
    Calls Try.prog 42 #[.agg #[.string a0_0, .int .i64 a0_1, .int .i64 a0_2, .int .i64 a0_3, .int .i64 a0_4, .int .i64 a0_5, .int .i64 a0_6], .int .i64 a1, .int .i64 a2] w fun e w' => e = .returned (.tuple #[.int .i64 r1, .int .i64 r2]) ∧ Below w.heap.size w w' := by
 have hu63 := Try.underlying63
 have HB := Aside0.mk (Below.refl w.heap.size w)
 have H : ((aircraft_heights.f k a0_0 a0_1 a0_2 a0_3 a0_4 a0_5 a0_6 (([a1, a2] : List Int))).bind fun t168 => (if t168 = 0 then (if a2 ≥ a1 then ((num_DivUp.f k (wrap64 (a2 - a1)) a0_3).bind fun bt169 => (some (bt169.1, bt169.2))) else ((num_DivUp.f k (wrap64 (a1 - a2)) a0_4).bind fun bt171 => (some (bt171.1, bt171.2)))) else (some (0, t168)))) = some (r1, r2) := h
 clear h
 obtain ⟨y165, hy165⟩ : ∃ y_ : List Int, y_ = (([a1, a2] : List Int)) := ⟨_, rfl⟩
 replace H : ((aircraft_heights.f k a0_0 a0_1 a0_2 a0_3 a0_4 a0_5 a0_6 y165).bind fun t168 => (if t168 = 0 then (if a2 ≥ a1 then ((num_DivUp.f k (wrap64 (a2 - a1)) a0_3).bind fun bt169 => (some (bt169.1, bt169.2))) else ((num_DivUp.f k (wrap64 (a1 - a2)) a0_4).bind fun bt171 => (some (bt171.1, bt171.2)))) else (some (0, t168)))) = some (r1, r2) := by first | (rw [hy165]; with_reducible exact H) | (have H2_ := (Option.bind_some _ _).symm.trans H; rw [hy165]; with_reducible exact H2_) | (have H2_ := (Option.bind_some _ _).symm.trans H; with_reducible exact H2_) | with_reducible exact H | (rw [hy165]; exact H) | exact H
 have Ny165 := Aside0.mk hy165
 clear hy165
 replace H := Option.bind_eq_some_iff.mp H
 obtain ⟨t168, A40, H⟩ := H
 replace H : (if t168 = 0 then (if a2 ≥ a1 then ((num_DivUp.f k (wrap64 (a2 - a1)) a0_3).bind fun bt169 => (some (bt169.1, bt169.2))) else ((num_DivUp.f k (wrap64 (a1 - a2)) a0_4).bind fun bt171 => (some (bt171.1, bt171.2)))) else (some (0, t168))) = some (r1, r2) := H
 have A4 := Aside0.mk A40
 clear A40
 refine Or.elim (Classical.em (t168 = 0)) (fun c5 => ?p2_) (fun c5 => ?n2_)
 case' p2_ =>
  rw [if_pos c5] at H
  have c5b0 : (t168 == 0) = true := beq_iff_eq.mpr c5
  have c5b1 : (t168 != 0) = false := bne_eq_false_iff_eq.mpr c5
  clear c5
  refine Or.elim (Classical.em (a2 ≥ a1)) (fun c6 => ?p3_) (fun c6 => ?n3_)
  case' p3_ =>
   rw [if_pos c6] at H
   have c6b0 : decide (a1 ≤ a2) = true := decide_eq_true c6
   clear c6
   replace H := Option.bind_eq_some_iff.mp H
   obtain ⟨⟨t169, t170⟩, A70, H⟩ := H
   replace H : (some (t169, t170)) = some (r1, r2) := H
   have A7 := Aside0.mk A70
   clear A70
   simp only [Option.some.injEq, Prod.mk.injEq] at H
   obtain ⟨rfl, rfl⟩ := H
  case' n3_ =>
   rw [if_neg c6] at H
   have c6b0 : decide (a1 ≤ a2) = false := decide_eq_false c6
   clear c6
   replace H := Option.bind_eq_some_iff.mp H
   obtain ⟨⟨t171, t172⟩, A160, H⟩ := H
   replace H : (some (t171, t172)) = some (r1, r2) := H
   have A16 := Aside0.mk A160
   clear A160
   simp only [Option.some.injEq, Prod.mk.injEq] at H
   obtain ⟨rfl, rfl⟩ := H
 case' n2_ =>
  rw [if_neg c5] at H
  have c5b0 : (t168 == 0) = false := beq_eq_false_iff_ne.mpr c5
  have c5b1 : (t168 != 0) = true := bne_iff_ne.mpr c5
  simp only [Option.some.injEq, Prod.mk.injEq] at H
  obtain ⟨rfl, rfl⟩ := H
 all_goals
  go_enter Try.func42, Try.ntmps42
  go_wp2_with (first | ((with_reducible refine gate_dst (N := 3) rfl ?_); refine box_event ?hg (N := 3) ?hd (cs := #[.string a0_0, .int .i64 a0_1, .int .i64 a0_2, .int .i64 a0_3, .int .i64 a0_4, .int .i64 a0_5, .int .i64 a0_6]) (t := 63) ?hr ?_; (case hd => rfl); (case hg => rfl); (case hr => first | (go_simp; done) | (go_simp; rfl)); intro gb164 hg wx9f3c1 hbox hb; have n0_ := Aside0.mk (below_step (by repeat (first | (with_reducible first | exact HB.out | apply below_alloc | apply pw_below_drewN | apply below_drew1) | exact HB.out)) hb); have n1_ := Aside0.mk (hbox); have n2_ := Aside0.mk ((by rw [hg]; exact (below_size (by repeat (first | (with_reducible first | exact HB.out | apply below_alloc | apply pw_below_drewN | apply below_drew1) | exact HB.out))) : w.heap.size ≤ gb164)); have n3_ := Aside0.mk ((by rw [hg]; exact (below_size (by repeat (first | (with_reducible first | exact HB.out | apply below_alloc | apply pw_below_drewN | apply below_drew1) | exact HB.out))) : w.heap.size ≤ gb164)); clear HB; have HB := n0_; have BK164 := n1_; have GW164 := n2_; have GE164 := n3_; clear n0_ n1_ n2_ n3_; clear hb hbox hg; have hczx9f3c1 : wx9f3c1.cell? ⟨gb164, 0, none⟩ = some (.string a0_0) := (blk_cell BK164.out 0).trans rfl; have hczx9f3c2 : wx9f3c1.cell? ⟨gb164, 1, none⟩ = some (.int .i64 a0_1) := (blk_cell BK164.out 1).trans rfl; have hczx9f3c3 : wx9f3c1.cell? ⟨gb164, 2, none⟩ = some (.int .i64 a0_2) := (blk_cell BK164.out 2).trans rfl; have hczx9f3c4 : wx9f3c1.cell? ⟨gb164, 3, none⟩ = some (.int .i64 a0_3) := (blk_cell BK164.out 3).trans rfl; have hczx9f3c5 : wx9f3c1.cell? ⟨gb164, 4, none⟩ = some (.int .i64 a0_4) := (blk_cell BK164.out 4).trans rfl; have hczx9f3c6 : wx9f3c1.cell? ⟨gb164, 5, none⟩ = some (.int .i64 a0_5) := (blk_cell BK164.out 5).trans rfl; have hczx9f3c7 : wx9f3c1.cell? ⟨gb164, 6, none⟩ = some (.int .i64 a0_6) := (blk_cell BK164.out 6).trans rfl; have hfzx9f3c1 := blk_frozen BK164.out 0; have hfzx9f3c2 := blk_frozen BK164.out 1; have hfzx9f3c3 := blk_frozen BK164.out 2; have hfzx9f3c4 := blk_frozen BK164.out 3; have hfzx9f3c5 := blk_frozen BK164.out 4; have hfzx9f3c6 := blk_frozen BK164.out 5; have hfzx9f3c7 := blk_frozen BK164.out 6) | ((with_reducible refine gate_dst (N := 12) rfl ?_); refine Kd.R_lit (Kd.int .i64) _ 3 ?hg (N := 12) ?hd (xs := ([a1, a2] : List Int)) (inner := [.int .i64 a1, .int .i64 a2]) (ok := fun _ => True) (okp := fun _ => True) ?hr ?hp (fun _ hk => hk) trivial (Below.refl _ _) (Nat.le_refl _) (by simp) ?_; (case hd => rfl); (case hg => rfl); (case hr => first | (go_simp; done) | (go_simp; rfl)); (case hp => exact (Reps.one (show Kd.M (Kd.int .i64) _ _ _ a1 [.int .i64 a1] from rfl) (Reps.one (show Kd.M (Kd.int .i64) _ _ _ a2 [.int .i64 a2] from rfl) (Reps.none _ _)))); intro v166 wx4b001 hox4b001 hb hg_ hnew_; clear hg_ hnew_; (first | rw [← Ny165.out] at hox4b001 | (simp only [Int.reduceToNat] at hox4b001; rw [← Ny165.out] at hox4b001)); have n0_ := Aside0.mk (Kd.R_lower hox4b001 (below_size (by repeat (first | (with_reducible first | exact HB.out | apply below_alloc | apply pw_below_drewN | apply below_drew1 | refine below_set ?_ GE164.out) | exact HB.out)))); have n1_ := Aside0.mk (blk_below (g := gb164) (o := .cells #[.string a0_0, .int .i64 a0_1, .int .i64 a0_2, .int .i64 a0_3, .int .i64 a0_4, .int .i64 a0_5, .int .i64 a0_6] 63 (0, 0)) (by (with_reducible repeat (first | refine blk_drewN ?_ _ | refine blk_drew ?_ | refine blk_alloc ?_ _)); exact BK164.out) hb); have n2_ := Aside0.mk (below_step (by repeat (first | (with_reducible first | exact HB.out | apply below_alloc | apply pw_below_drewN | apply below_drew1 | refine below_set ?_ GE164.out) | exact HB.out)) hb); clear BK164; clear HB; have HO167 := n0_; have BK164 := n1_; have HB := n2_; clear n0_ n1_ n2_; clear hb hox4b001; obtain ⟨Aox4b001, cox4b001, eox4b001⟩ := Kd.R_slice HO167.out; subst eox4b001) | ((with_reducible refine gate_callee (f := 63) rfl ?_); refine goesL_ (some 13) rfl rfl Try.func63 (by kernel_rfl) rfl #[.agg #[.string a0_0, .int .i64 a0_1, .int .i64 a0_2, .int .i64 a0_3, .int .i64 a0_4, .int .i64 a0_5, .int .i64 a0_6], .slice Aox4b001 y165.length cox4b001] rfl (by (try simp only [List.map_toArray, List.map_cons, List.map_nil]); first | done | rfl | (simp only [List.length_drop, List.length_take]; rfl)) ?_; (with_reducible refine (aircraft_heights.calls k a0_0 a0_1 a0_2 a0_3 a0_4 a0_5 a0_6 _ _ y165 t168 _ ?side1 ?side2 A4.out).mono ?_); (case side1 => repeat (first | exact (Kd.R_reads' HO167.out).2.2 | (with_reducible refine Kd.C_alloc ?_ _) | (with_reducible refine Kd.C_drewN ?_ _) | (with_reducible refine Kd.C_drew ?_))); (case side2 => exact (Kd.R_reads' HO167.out).2.1); rintro e wxb3091 ⟨rfl, hb⟩; refine ⟨_, rfl, ?_⟩; have n0_ := Aside0.mk (Kd.R_below (by (with_reducible repeat (first | apply Kd.R_alloc | apply Kd.R_drewN | apply Kd.R_drew)); exact HO167.out) hb); have n1_ := Aside0.mk (blk_below (g := gb164) (o := .cells #[.string a0_0, .int .i64 a0_1, .int .i64 a0_2, .int .i64 a0_3, .int .i64 a0_4, .int .i64 a0_5, .int .i64 a0_6] 63 (0, 0)) (by (with_reducible repeat (first | refine blk_drewN ?_ _ | refine blk_drew ?_ | refine blk_alloc ?_ _)); exact BK164.out) hb); have n2_ := Aside0.mk (below_step (by repeat (first | (with_reducible first | exact HB.out | apply below_alloc | apply pw_below_drewN | apply below_drew1 | refine below_set ?_ GE164.out) | exact HB.out)) hb); clear HO167; clear BK164; clear HB; have HO167 := n0_; have BK164 := n1_; have HB := n2_; clear n0_ n1_ n2_; (try clear hb); (try clear hb2); (try clear hk); (try clear hi); have hczxb3091 : wxb3091.cell? ⟨gb164, 0, none⟩ = some (.string a0_0) := (blk_cell BK164.out 0).trans rfl; have hczxb3092 : wxb3091.cell? ⟨gb164, 1, none⟩ = some (.int .i64 a0_1) := (blk_cell BK164.out 1).trans rfl; have hczxb3093 : wxb3091.cell? ⟨gb164, 2, none⟩ = some (.int .i64 a0_2) := (blk_cell BK164.out 2).trans rfl; have hczxb3094 : wxb3091.cell? ⟨gb164, 3, none⟩ = some (.int .i64 a0_3) := (blk_cell BK164.out 3).trans rfl; have hczxb3095 : wxb3091.cell? ⟨gb164, 4, none⟩ = some (.int .i64 a0_4) := (blk_cell BK164.out 4).trans rfl; have hczxb3096 : wxb3091.cell? ⟨gb164, 5, none⟩ = some (.int .i64 a0_5) := (blk_cell BK164.out 5).trans rfl; have hczxb3097 : wxb3091.cell? ⟨gb164, 6, none⟩ = some (.int .i64 a0_6) := (blk_cell BK164.out 6).trans rfl; have hfzxb3091 := blk_frozen BK164.out 0; have hfzxb3092 := blk_frozen BK164.out 1; have hfzxb3093 := blk_frozen BK164.out 2; have hfzxb3094 := blk_frozen BK164.out 3; have hfzxb3095 := blk_frozen BK164.out 4; have hfzxb3096 := blk_frozen BK164.out 5; have hfzxb3097 := blk_frozen BK164.out 6) | ((with_reducible refine gate_callee (f := 63) rfl ?_); refine goesL_ (some 13) rfl rfl Try.func63 (by kernel_rfl) rfl #[.agg #[.string a0_0, .int .i64 a0_1, .int .i64 a0_2, .int .i64 a0_3, .int .i64 a0_4, .int .i64 a0_5, .int .i64 a0_6], .slice Aox4b001 y165.length cox4b001] rfl (by (try simp only [List.map_toArray, List.map_cons, List.map_nil]); first | done | rfl | (simp only [List.length_drop, List.length_take]; rfl)) ?_; (with_reducible refine (aircraft_heights.calls k a0_0 a0_1 a0_2 a0_3 a0_4 a0_5 a0_6 _ _ y165 t168 _ ?side1 ?side2 A4.out).mono ?_); (case side1 => repeat (first | exact (Kd.R_reads' HO167.out).2.2 | (with_reducible refine Kd.C_alloc ?_ _) | (with_reducible refine Kd.C_drewN ?_ _) | (with_reducible refine Kd.C_drew ?_))); (case side2 => exact (Kd.R_reads' HO167.out).2.1); rintro e wx561a1 ⟨rfl, hb⟩; refine ⟨_, rfl, ?_⟩; have n0_ := Aside0.mk (Kd.R_below (by (with_reducible repeat (first | apply Kd.R_alloc | apply Kd.R_drewN | apply Kd.R_drew)); exact HO167.out) hb); have n1_ := Aside0.mk (blk_below (g := gb164) (o := .cells #[.string a0_0, .int .i64 a0_1, .int .i64 a0_2, .int .i64 a0_3, .int .i64 a0_4, .int .i64 a0_5, .int .i64 a0_6] 63 (0, 0)) (by (with_reducible repeat (first | refine blk_drewN ?_ _ | refine blk_drew ?_ | refine blk_alloc ?_ _)); exact BK164.out) hb); have n2_ := Aside0.mk (below_step (by repeat (first | (with_reducible first | exact HB.out | apply below_alloc | apply pw_below_drewN | apply below_drew1 | refine below_set ?_ GE164.out) | exact HB.out)) hb); clear HO167; clear BK164; clear HB; have HO167 := n0_; have BK164 := n1_; have HB := n2_; clear n0_ n1_ n2_; (try clear hb); (try clear hb2); (try clear hk); (try clear hi)) | ((with_reducible refine gate_callee (f := 17) rfl ?_); refine goesL_ (some 25) rfl rfl Try.func17 (by kernel_rfl) rfl #[.int .i64 (wrap64 (a2 - a1)), .int .i64 a0_3] rfl (by (try simp only [List.map_toArray, List.map_cons, List.map_nil]); first | done | rfl | (simp only [List.length_drop, List.length_take]; rfl)) ?_; (with_reducible refine (num_DivUp.calls k (wrap64 (a2 - a1)) a0_3 t169 t170 _ A7.out).mono ?_); rintro e wx3e3b1 ⟨rfl, hb⟩; refine ⟨_, rfl, ?_⟩; have n0_ := Aside0.mk (Kd.R_below (by (with_reducible repeat (first | apply Kd.R_alloc | apply Kd.R_drewN | apply Kd.R_drew)); exact HO167.out) hb); have n1_ := Aside0.mk (blk_below (g := gb164) (o := .cells #[.string a0_0, .int .i64 a0_1, .int .i64 a0_2, .int .i64 a0_3, .int .i64 a0_4, .int .i64 a0_5, .int .i64 a0_6] 63 (0, 0)) (by (with_reducible repeat (first | refine blk_drewN ?_ _ | refine blk_drew ?_ | refine blk_alloc ?_ _)); exact BK164.out) hb); have n2_ := Aside0.mk (below_step (by repeat (first | (with_reducible first | exact HB.out | apply below_alloc | apply pw_below_drewN | apply below_drew1 | refine below_set ?_ GE164.out) | exact HB.out)) hb); clear HO167; clear BK164; clear HB; have HO167 := n0_; have BK164 := n1_; have HB := n2_; clear n0_ n1_ n2_; (try clear hb); (try clear hb2); (try clear hk); (try clear hi)) | ((with_reducible refine gate_callee (f := 17) rfl ?_); refine goesL_ (some 33) rfl rfl Try.func17 (by kernel_rfl) rfl #[.int .i64 (wrap64 (a1 - a2)), .int .i64 a0_4] rfl (by (try simp only [List.map_toArray, List.map_cons, List.map_nil]); first | done | rfl | (simp only [List.length_drop, List.length_take]; rfl)) ?_; (with_reducible refine (num_DivUp.calls k (wrap64 (a1 - a2)) a0_4 t171 t172 _ A16.out).mono ?_); rintro e wx92351 ⟨rfl, hb⟩; refine ⟨_, rfl, ?_⟩; have n0_ := Aside0.mk (Kd.R_below (by (with_reducible repeat (first | apply Kd.R_alloc | apply Kd.R_drewN | apply Kd.R_drew)); exact HO167.out) hb); have n1_ := Aside0.mk (blk_below (g := gb164) (o := .cells #[.string a0_0, .int .i64 a0_1, .int .i64 a0_2, .int .i64 a0_3, .int .i64 a0_4, .int .i64 a0_5, .int .i64 a0_6] 63 (0, 0)) (by (with_reducible repeat (first | refine blk_drewN ?_ _ | refine blk_drew ?_ | refine blk_alloc ?_ _)); exact BK164.out) hb); have n2_ := Aside0.mk (below_step (by repeat (first | (with_reducible first | exact HB.out | apply below_alloc | apply pw_below_drewN | apply below_drew1 | refine below_set ?_ GE164.out) | exact HB.out)) hb); clear HO167; clear BK164; clear HB; have HO167 := n0_; have BK164 := n1_; have HB := n2_; clear n0_ n1_ n2_; (try clear hb); (try clear hb2); (try clear hk); (try clear hi)))
  go_ret2
  exact ⟨by first | rfl | (simp [errW_none, errW_some] <;> rfl) | (simp [*, errW_none, errW_some] <;> rfl), by repeat (first | (with_reducible first | exact HB.out | apply below_alloc | apply pw_below_drewN | apply below_drew1 | refine below_set ?_ GE164.out) | exact HB.out)⟩

/-! ### skywaykeep1_FlyProfile: function 14 -/
def skywaykeep1_FlyProfile.j0 : Nat → Int → Int → Int → Int → Bool → ByteArray → Int → Int → Int → Int → Int → Int → Option (Bool)
  | 0, _, _, _, _, _, _, _, _, _, _, _, _ => none
  | k + 1, x1, x2, x3, x9, x70, x174000, x174001, x174002, x174003, x174004, x174005, x174006 => if x70 = true then (some false) else (if x3 = x2 then (some true) else ((fly_Profile.f k x174000 x174001 x174002 x174003 x174004 x174005 x174006 x1 x2 (wrap64 (x3 + 1))).bind fun bt181 => ((aircraft_Climb.f k x174000 x174001 x174002 x174003 x174004 x174005 x174006 x9 bt181.1).bind fun bt183 => (if bt181.2 = 0 then (if bt183.2 = 0 then (some (decide (bt183.1 ≤ 1))) else (some false)) else (some false)))))
def skywaykeep1_FlyProfile.f (k : Nat) (a0_0 : ByteArray) (a0_1 : Int) (a0_2 : Int) (a0_3 : Int) (a0_4 : Int) (a0_5 : Int) (a0_6 : Int) (a1 : Int) (a2 : Int) (a3 : Int) : Option (Bool) := (skywaykeep1_flyWorks.f k).bind fun t174 => (if t174 = true then ((fly_Profile.f k a0_0 a0_1 a0_2 a0_3 a0_4 a0_5 a0_6 a1 a2 a3).bind fun bt175 => (if bt175.2 = 0 then ((fly_Profile.f k a0_0 a0_1 a0_2 a0_3 a0_4 a0_5 a0_6 a1 a2 0).bind fun bt177 => ((fly_Profile.f k a0_0 a0_1 a0_2 a0_3 a0_4 a0_5 a0_6 a1 a2 a2).bind fun bt179 => (if bt177.2 = 0 then (if bt179.2 = 0 then (if bt177.1 = 0 then (if bt179.1 = 0 then (if bt175.1 < 0 then (skywaykeep1_FlyProfile.j0 k a1 a2 a3 bt175.1 true a0_0 a0_1 a0_2 a0_3 a0_4 a0_5 a0_6) else (skywaykeep1_FlyProfile.j0 k a1 a2 a3 bt175.1 (decide (bt175.1 > a1)) a0_0 a0_1 a0_2 a0_3 a0_4 a0_5 a0_6)) else (skywaykeep1_FlyProfile.j0 k a1 a2 a3 bt175.1 true a0_0 a0_1 a0_2 a0_3 a0_4 a0_5 a0_6)) else (skywaykeep1_FlyProfile.j0 k a1 a2 a3 bt175.1 true a0_0 a0_1 a0_2 a0_3 a0_4 a0_5 a0_6)) else (skywaykeep1_FlyProfile.j0 k a1 a2 a3 bt175.1 true a0_0 a0_1 a0_2 a0_3 a0_4 a0_5 a0_6)) else (skywaykeep1_FlyProfile.j0 k a1 a2 a3 bt175.1 true a0_0 a0_1 a0_2 a0_3 a0_4 a0_5 a0_6)))) else (some (bt175.1 == 0)))) else (some false))
theorem skywaykeep1_FlyProfile.mono_l : ∀ k, (∀ y0 y1 y2 y3 y4 y5 y6 y7 y8 y9 y10 y11, LeO (skywaykeep1_FlyProfile.j0 k y0 y1 y2 y3 y4 y5 y6 y7 y8 y9 y10 y11) (skywaykeep1_FlyProfile.j0 (k + 1) y0 y1 y2 y3 y4 y5 y6 y7 y8 y9 y10 y11))
  | 0 => fun _ _ _ _ _ _ _ _ _ _ _ _ r h => by simp [skywaykeep1_FlyProfile.j0] at h
  | k + 1 => by
    have ih0 := skywaykeep1_FlyProfile.mono_l k
    · intro y0 y1 y2 y3 y4 y5 y6 y7 y8 y9 y10 y11
      unfold skywaykeep1_FlyProfile.j0
      repeat' first
      | (with_reducible exact ih0 _ _ _ _ _ _ _ _ _ _ _ _)
      | (with_reducible exact aircraft_Climb.mono _ _ _ _ _ _ _ _ _ _)
      | (with_reducible exact fly_Profile.mono _ _ _ _ _ _ _ _ _ _ _)
      | (with_reducible exact skywaykeep1_flyWorks.mono _)
      | (with_reducible exact LeO.refl _)
      | (with_reducible exact LeO.none _)
      | (with_reducible refine LeO.ite ?_ ?_)
      | (with_reducible refine LeO.bind ?_ (fun _ => ?_))
      | exact ih0 _ _ _ _ _ _ _ _ _ _ _ _
      | exact aircraft_Climb.mono _ _ _ _ _ _ _ _ _ _
      | exact fly_Profile.mono _ _ _ _ _ _ _ _ _ _ _
      | exact skywaykeep1_flyWorks.mono _
      | exact LeO.none _
      | refine LeO.ite ?_ ?_
      | refine LeO.bind ?_ (fun _ => ?_)
theorem skywaykeep1_FlyProfile.mono : ∀ a0 a1 a2 a3 a4 a5 a6 a7 a8 a9 k, LeO (skywaykeep1_FlyProfile.f k a0 a1 a2 a3 a4 a5 a6 a7 a8 a9) (skywaykeep1_FlyProfile.f (k + 1) a0 a1 a2 a3 a4 a5 a6 a7 a8 a9) := by
  intro a0 a1 a2 a3 a4 a5 a6 a7 a8 a9 k
  have ih0 := skywaykeep1_FlyProfile.mono_l k
  unfold skywaykeep1_FlyProfile.f
  repeat' first
      | (with_reducible exact ih0 _ _ _ _ _ _ _ _ _ _ _ _)
      | (with_reducible exact aircraft_Climb.mono _ _ _ _ _ _ _ _ _ _)
      | (with_reducible exact fly_Profile.mono _ _ _ _ _ _ _ _ _ _ _)
      | (with_reducible exact skywaykeep1_flyWorks.mono _)
      | (with_reducible exact LeO.refl _)
      | (with_reducible exact LeO.none _)
      | (with_reducible refine LeO.ite ?_ ?_)
      | (with_reducible refine LeO.bind ?_ (fun _ => ?_))
      | exact ih0 _ _ _ _ _ _ _ _ _ _ _ _
      | exact aircraft_Climb.mono _ _ _ _ _ _ _ _ _ _
      | exact fly_Profile.mono _ _ _ _ _ _ _ _ _ _ _
      | exact skywaykeep1_flyWorks.mono _
      | exact LeO.none _
      | refine LeO.ite ?_ ?_
      | refine LeO.bind ?_ (fun _ => ?_)
set_option maxHeartbeats 8000000 in
set_option maxRecDepth 100000 in
theorem skywaykeep1_FlyProfile.calls (k : Nat) (a0_0 : ByteArray) (a0_1 : Int) (a0_2 : Int) (a0_3 : Int) (a0_4 : Int) (a0_5 : Int) (a0_6 : Int) (a1 : Int) (a2 : Int) (a3 : Int) (r : Bool) (w : World) (h : skywaykeep1_FlyProfile.f k a0_0 a0_1 a0_2 a0_3 a0_4 a0_5 a0_6 a1 a2 a3 = some r) :
    Calls Try.prog 14 #[.agg #[.string a0_0, .int .i64 a0_1, .int .i64 a0_2, .int .i64 a0_3, .int .i64 a0_4, .int .i64 a0_5, .int .i64 a0_6], .int .i64 a1, .int .i64 a2, .int .i64 a3] w fun e w' => e = .returned (.bool r) ∧ Below w.heap.size w w' := by
 have hu63 := Try.underlying63
 have HB := Aside0.mk (Below.refl w.heap.size w)
 have H : ((skywaykeep1_flyWorks.f k).bind fun t174 => (if t174 = true then ((fly_Profile.f k a0_0 a0_1 a0_2 a0_3 a0_4 a0_5 a0_6 a1 a2 a3).bind fun bt175 => (if bt175.2 = 0 then ((fly_Profile.f k a0_0 a0_1 a0_2 a0_3 a0_4 a0_5 a0_6 a1 a2 0).bind fun bt177 => ((fly_Profile.f k a0_0 a0_1 a0_2 a0_3 a0_4 a0_5 a0_6 a1 a2 a2).bind fun bt179 => (if bt177.2 = 0 then (if bt179.2 = 0 then (if bt177.1 = 0 then (if bt179.1 = 0 then (if bt175.1 < 0 then (skywaykeep1_FlyProfile.j0 k a1 a2 a3 bt175.1 true a0_0 a0_1 a0_2 a0_3 a0_4 a0_5 a0_6) else (skywaykeep1_FlyProfile.j0 k a1 a2 a3 bt175.1 (decide (bt175.1 > a1)) a0_0 a0_1 a0_2 a0_3 a0_4 a0_5 a0_6)) else (skywaykeep1_FlyProfile.j0 k a1 a2 a3 bt175.1 true a0_0 a0_1 a0_2 a0_3 a0_4 a0_5 a0_6)) else (skywaykeep1_FlyProfile.j0 k a1 a2 a3 bt175.1 true a0_0 a0_1 a0_2 a0_3 a0_4 a0_5 a0_6)) else (skywaykeep1_FlyProfile.j0 k a1 a2 a3 bt175.1 true a0_0 a0_1 a0_2 a0_3 a0_4 a0_5 a0_6)) else (skywaykeep1_FlyProfile.j0 k a1 a2 a3 bt175.1 true a0_0 a0_1 a0_2 a0_3 a0_4 a0_5 a0_6)))) else (some (bt175.1 == 0)))) else (some false))) = some r := h
 clear h
 replace H := Option.bind_eq_some_iff.mp H
 obtain ⟨t174, A50, H⟩ := H
 replace H : (if t174 = true then ((fly_Profile.f k a0_0 a0_1 a0_2 a0_3 a0_4 a0_5 a0_6 a1 a2 a3).bind fun bt175 => (if bt175.2 = 0 then ((fly_Profile.f k a0_0 a0_1 a0_2 a0_3 a0_4 a0_5 a0_6 a1 a2 0).bind fun bt177 => ((fly_Profile.f k a0_0 a0_1 a0_2 a0_3 a0_4 a0_5 a0_6 a1 a2 a2).bind fun bt179 => (if bt177.2 = 0 then (if bt179.2 = 0 then (if bt177.1 = 0 then (if bt179.1 = 0 then (if bt175.1 < 0 then (skywaykeep1_FlyProfile.j0 k a1 a2 a3 bt175.1 true a0_0 a0_1 a0_2 a0_3 a0_4 a0_5 a0_6) else (skywaykeep1_FlyProfile.j0 k a1 a2 a3 bt175.1 (decide (bt175.1 > a1)) a0_0 a0_1 a0_2 a0_3 a0_4 a0_5 a0_6)) else (skywaykeep1_FlyProfile.j0 k a1 a2 a3 bt175.1 true a0_0 a0_1 a0_2 a0_3 a0_4 a0_5 a0_6)) else (skywaykeep1_FlyProfile.j0 k a1 a2 a3 bt175.1 true a0_0 a0_1 a0_2 a0_3 a0_4 a0_5 a0_6)) else (skywaykeep1_FlyProfile.j0 k a1 a2 a3 bt175.1 true a0_0 a0_1 a0_2 a0_3 a0_4 a0_5 a0_6)) else (skywaykeep1_FlyProfile.j0 k a1 a2 a3 bt175.1 true a0_0 a0_1 a0_2 a0_3 a0_4 a0_5 a0_6)))) else (some (bt175.1 == 0)))) else (some false)) = some r := H
 have A5 := Aside0.mk A50
 clear A50
 refine Or.elim (Classical.em (t174 = true)) (fun c6 => ?p2_) (fun c6 => ?n2_)
 case' p2_ =>
  subst c6
  have H1 : ((fly_Profile.f k a0_0 a0_1 a0_2 a0_3 a0_4 a0_5 a0_6 a1 a2 a3).bind fun bt175 => (if bt175.2 = 0 then ((fly_Profile.f k a0_0 a0_1 a0_2 a0_3 a0_4 a0_5 a0_6 a1 a2 0).bind fun bt177 => ((fly_Profile.f k a0_0 a0_1 a0_2 a0_3 a0_4 a0_5 a0_6 a1 a2 a2).bind fun bt179 => (if bt177.2 = 0 then (if bt179.2 = 0 then (if bt177.1 = 0 then (if bt179.1 = 0 then (if bt175.1 < 0 then (skywaykeep1_FlyProfile.j0 k a1 a2 a3 bt175.1 true a0_0 a0_1 a0_2 a0_3 a0_4 a0_5 a0_6) else (skywaykeep1_FlyProfile.j0 k a1 a2 a3 bt175.1 (decide (bt175.1 > a1)) a0_0 a0_1 a0_2 a0_3 a0_4 a0_5 a0_6)) else (skywaykeep1_FlyProfile.j0 k a1 a2 a3 bt175.1 true a0_0 a0_1 a0_2 a0_3 a0_4 a0_5 a0_6)) else (skywaykeep1_FlyProfile.j0 k a1 a2 a3 bt175.1 true a0_0 a0_1 a0_2 a0_3 a0_4 a0_5 a0_6)) else (skywaykeep1_FlyProfile.j0 k a1 a2 a3 bt175.1 true a0_0 a0_1 a0_2 a0_3 a0_4 a0_5 a0_6)) else (skywaykeep1_FlyProfile.j0 k a1 a2 a3 bt175.1 true a0_0 a0_1 a0_2 a0_3 a0_4 a0_5 a0_6)))) else (some (bt175.1 == 0)))) = some r := by rw [if_pos rfl] at H; exact H
  clear H
  have H := H1
  clear H1
  replace H := Option.bind_eq_some_iff.mp H
  obtain ⟨⟨t175, t176⟩, A70, H⟩ := H
  replace H : (if t176 = 0 then ((fly_Profile.f k a0_0 a0_1 a0_2 a0_3 a0_4 a0_5 a0_6 a1 a2 0).bind fun bt177 => ((fly_Profile.f k a0_0 a0_1 a0_2 a0_3 a0_4 a0_5 a0_6 a1 a2 a2).bind fun bt179 => (if bt177.2 = 0 then (if bt179.2 = 0 then (if bt177.1 = 0 then (if bt179.1 = 0 then (if t175 < 0 then (skywaykeep1_FlyProfile.j0 k a1 a2 a3 t175 true a0_0 a0_1 a0_2 a0_3 a0_4 a0_5 a0_6) else (skywaykeep1_FlyProfile.j0 k a1 a2 a3 t175 (decide (t175 > a1)) a0_0 a0_1 a0_2 a0_3 a0_4 a0_5 a0_6)) else (skywaykeep1_FlyProfile.j0 k a1 a2 a3 t175 true a0_0 a0_1 a0_2 a0_3 a0_4 a0_5 a0_6)) else (skywaykeep1_FlyProfile.j0 k a1 a2 a3 t175 true a0_0 a0_1 a0_2 a0_3 a0_4 a0_5 a0_6)) else (skywaykeep1_FlyProfile.j0 k a1 a2 a3 t175 true a0_0 a0_1 a0_2 a0_3 a0_4 a0_5 a0_6)) else (skywaykeep1_FlyProfile.j0 k a1 a2 a3 t175 true a0_0 a0_1 a0_2 a0_3 a0_4 a0_5 a0_6)))) else (some (t175 == 0))) = some r := H
  have A7 := Aside0.mk A70
  clear A70
  refine Or.elim (Classical.em (t176 = 0)) (fun c8 => ?p3_) (fun c8 => ?n3_)
  case' p3_ =>
   rw [if_pos c8] at H
   have c8b0 : (t176 == 0) = true := beq_iff_eq.mpr c8
   have c8b1 : (t176 != 0) = false := bne_eq_false_iff_eq.mpr c8
   clear c8
   replace H := Option.bind_eq_some_iff.mp H
   obtain ⟨⟨t177, t178⟩, A90, H⟩ := H
   replace H : ((fly_Profile.f k a0_0 a0_1 a0_2 a0_3 a0_4 a0_5 a0_6 a1 a2 a2).bind fun bt179 => (if t178 = 0 then (if bt179.2 = 0 then (if t177 = 0 then (if bt179.1 = 0 then (if t175 < 0 then (skywaykeep1_FlyProfile.j0 k a1 a2 a3 t175 true a0_0 a0_1 a0_2 a0_3 a0_4 a0_5 a0_6) else (skywaykeep1_FlyProfile.j0 k a1 a2 a3 t175 (decide (t175 > a1)) a0_0 a0_1 a0_2 a0_3 a0_4 a0_5 a0_6)) else (skywaykeep1_FlyProfile.j0 k a1 a2 a3 t175 true a0_0 a0_1 a0_2 a0_3 a0_4 a0_5 a0_6)) else (skywaykeep1_FlyProfile.j0 k a1 a2 a3 t175 true a0_0 a0_1 a0_2 a0_3 a0_4 a0_5 a0_6)) else (skywaykeep1_FlyProfile.j0 k a1 a2 a3 t175 true a0_0 a0_1 a0_2 a0_3 a0_4 a0_5 a0_6)) else (skywaykeep1_FlyProfile.j0 k a1 a2 a3 t175 true a0_0 a0_1 a0_2 a0_3 a0_4 a0_5 a0_6))) = some r := H
   have A9 := Aside0.mk A90
   clear A90
   replace H := Option.bind_eq_some_iff.mp H
   obtain ⟨⟨t179, t180⟩, A100, H⟩ := H
   replace H : (if t178 = 0 then (if t180 = 0 then (if t177 = 0 then (if t179 = 0 then (if t175 < 0 then (skywaykeep1_FlyProfile.j0 k a1 a2 a3 t175 true a0_0 a0_1 a0_2 a0_3 a0_4 a0_5 a0_6) else (skywaykeep1_FlyProfile.j0 k a1 a2 a3 t175 (decide (t175 > a1)) a0_0 a0_1 a0_2 a0_3 a0_4 a0_5 a0_6)) else (skywaykeep1_FlyProfile.j0 k a1 a2 a3 t175 true a0_0 a0_1 a0_2 a0_3 a0_4 a0_5 a0_6)) else (skywaykeep1_FlyProfile.j0 k a1 a2 a3 t175 true a0_0 a0_1 a0_2 a0_3 a0_4 a0_5 a0_6)) else (skywaykeep1_FlyProfile.j0 k a1 a2 a3 t175 true a0_0 a0_1 a0_2 a0_3 a0_4 a0_5 a0_6)) else (skywaykeep1_FlyProfile.j0 k a1 a2 a3 t175 true a0_0 a0_1 a0_2 a0_3 a0_4 a0_5 a0_6)) = some r := H
   have A10 := Aside0.mk A100
   clear A100
   have HC11 := Aside0.mk H
   clear H
   have hm1_0 := Aside0.mk trivial
  case' n3_ =>
   rw [if_neg c8] at H
   have c8b0 : (t176 == 0) = false := beq_eq_false_iff_ne.mpr c8
   have c8b1 : (t176 != 0) = true := bne_iff_ne.mpr c8
   have hm1_1 := Aside0.mk trivial
 case' n2_ =>
  replace c6 := Bool.eq_false_iff.mpr c6
  subst c6
  have H1 : (some false) = some r := by rw [if_neg (show ¬ (false = true) by decide)] at H; exact H
  clear H
  have H := H1
  clear H1
  have hm1_1 := Aside0.mk trivial
 all_goals
  first
   | clear hm1_0
     go_enter Try.func14, Try.ntmps14
     go_upto_region 8 with (first | ((with_reducible refine gate_dst (N := 4) rfl ?_); refine box_event ?hg (N := 4) ?hd (cs := #[.string a0_0, .int .i64 a0_1, .int .i64 a0_2, .int .i64 a0_3, .int .i64 a0_4, .int .i64 a0_5, .int .i64 a0_6]) (t := 63) ?hr ?_; (case hd => rfl); (case hg => rfl); (case hr => first | (go_simp; done) | (go_simp; rfl)); intro gb173 hg wx82a91 hbox hb; have n0_ := Aside0.mk (below_step (by repeat (first | (with_reducible first | exact HB.out | apply below_alloc | apply pw_below_drewN | apply below_drew1) | exact HB.out)) hb); have n1_ := Aside0.mk (hbox); have n2_ := Aside0.mk ((by rw [hg]; exact (below_size (by repeat (first | (with_reducible first | exact HB.out | apply below_alloc | apply pw_below_drewN | apply below_drew1) | exact HB.out))) : w.heap.size ≤ gb173)); have n3_ := Aside0.mk ((by rw [hg]; exact (below_size (by repeat (first | (with_reducible first | exact HB.out | apply below_alloc | apply pw_below_drewN | apply below_drew1) | exact HB.out))) : w.heap.size ≤ gb173)); clear HB; have HB := n0_; have BK173 := n1_; have GW173 := n2_; have GE173 := n3_; clear n0_ n1_ n2_ n3_; clear hb hbox hg) | ((with_reducible refine gate_callee (f := 33) rfl ?_); refine goesL_ (some 19) rfl rfl Try.func33 (by kernel_rfl) rfl #[] rfl (by (try simp only [List.map_toArray, List.map_cons, List.map_nil]); first | done | rfl | (simp only [List.length_drop, List.length_take]; rfl)) ?_; (with_reducible refine (skywaykeep1_flyWorks.calls k  true _ A5.out).mono ?_); rintro e wx24e61 ⟨rfl, hb⟩; refine ⟨_, rfl, ?_⟩; have n0_ := Aside0.mk (blk_below (g := gb173) (o := .cells #[.string a0_0, .int .i64 a0_1, .int .i64 a0_2, .int .i64 a0_3, .int .i64 a0_4, .int .i64 a0_5, .int .i64 a0_6] 63 (0, 0)) (by (with_reducible repeat (first | refine blk_drewN ?_ _ | refine blk_drew ?_ | refine blk_alloc ?_ _)); exact BK173.out) hb); have n1_ := Aside0.mk (below_step (by repeat (first | (with_reducible first | exact HB.out | apply below_alloc | apply pw_below_drewN | apply below_drew1 | refine below_set ?_ GE173.out) | exact HB.out)) hb); clear BK173; clear HB; have BK173 := n0_; have HB := n1_; clear n0_ n1_; (try clear hb); (try clear hb2); (try clear hk); (try clear hi); have hczx24e61 : wx24e61.cell? ⟨gb173, 0, none⟩ = some (.string a0_0) := (blk_cell BK173.out 0).trans rfl; have hczx24e62 : wx24e61.cell? ⟨gb173, 1, none⟩ = some (.int .i64 a0_1) := (blk_cell BK173.out 1).trans rfl; have hczx24e63 : wx24e61.cell? ⟨gb173, 2, none⟩ = some (.int .i64 a0_2) := (blk_cell BK173.out 2).trans rfl; have hczx24e64 : wx24e61.cell? ⟨gb173, 3, none⟩ = some (.int .i64 a0_3) := (blk_cell BK173.out 3).trans rfl; have hczx24e65 : wx24e61.cell? ⟨gb173, 4, none⟩ = some (.int .i64 a0_4) := (blk_cell BK173.out 4).trans rfl; have hczx24e66 : wx24e61.cell? ⟨gb173, 5, none⟩ = some (.int .i64 a0_5) := (blk_cell BK173.out 5).trans rfl; have hczx24e67 : wx24e61.cell? ⟨gb173, 6, none⟩ = some (.int .i64 a0_6) := (blk_cell BK173.out 6).trans rfl; have hfzx24e61 := blk_frozen BK173.out 0; have hfzx24e62 := blk_frozen BK173.out 1; have hfzx24e63 := blk_frozen BK173.out 2; have hfzx24e64 := blk_frozen BK173.out 3; have hfzx24e65 := blk_frozen BK173.out 4; have hfzx24e66 := blk_frozen BK173.out 5; have hfzx24e67 := blk_frozen BK173.out 6) | ((with_reducible refine gate_callee (f := 41) rfl ?_); refine goesL_ (some 26) rfl rfl Try.func41 (by kernel_rfl) rfl #[.agg #[.string a0_0, .int .i64 a0_1, .int .i64 a0_2, .int .i64 a0_3, .int .i64 a0_4, .int .i64 a0_5, .int .i64 a0_6], .int .i64 a1, .int .i64 a2, .int .i64 a3] rfl (by (try simp only [List.map_toArray, List.map_cons, List.map_nil]); first | done | rfl | (simp only [List.length_drop, List.length_take]; rfl)) ?_; (with_reducible refine (fly_Profile.calls k a0_0 a0_1 a0_2 a0_3 a0_4 a0_5 a0_6 a1 a2 a3 t175 t176 _ A7.out).mono ?_); rintro e wx32021 ⟨rfl, hb⟩; refine ⟨_, rfl, ?_⟩; have n0_ := Aside0.mk (blk_below (g := gb173) (o := .cells #[.string a0_0, .int .i64 a0_1, .int .i64 a0_2, .int .i64 a0_3, .int .i64 a0_4, .int .i64 a0_5, .int .i64 a0_6] 63 (0, 0)) (by (with_reducible repeat (first | refine blk_drewN ?_ _ | refine blk_drew ?_ | refine blk_alloc ?_ _)); exact BK173.out) hb); have n1_ := Aside0.mk (below_step (by repeat (first | (with_reducible first | exact HB.out | apply below_alloc | apply pw_below_drewN | apply below_drew1 | refine below_set ?_ GE173.out) | exact HB.out)) hb); clear BK173; clear HB; have BK173 := n0_; have HB := n1_; clear n0_ n1_; (try clear hb); (try clear hb2); (try clear hk); (try clear hi); have hczx32021 : wx32021.cell? ⟨gb173, 0, none⟩ = some (.string a0_0) := (blk_cell BK173.out 0).trans rfl; have hczx32022 : wx32021.cell? ⟨gb173, 1, none⟩ = some (.int .i64 a0_1) := (blk_cell BK173.out 1).trans rfl; have hczx32023 : wx32021.cell? ⟨gb173, 2, none⟩ = some (.int .i64 a0_2) := (blk_cell BK173.out 2).trans rfl; have hczx32024 : wx32021.cell? ⟨gb173, 3, none⟩ = some (.int .i64 a0_3) := (blk_cell BK173.out 3).trans rfl; have hczx32025 : wx32021.cell? ⟨gb173, 4, none⟩ = some (.int .i64 a0_4) := (blk_cell BK173.out 4).trans rfl; have hczx32026 : wx32021.cell? ⟨gb173, 5, none⟩ = some (.int .i64 a0_5) := (blk_cell BK173.out 5).trans rfl; have hczx32027 : wx32021.cell? ⟨gb173, 6, none⟩ = some (.int .i64 a0_6) := (blk_cell BK173.out 6).trans rfl; have hfzx32021 := blk_frozen BK173.out 0; have hfzx32022 := blk_frozen BK173.out 1; have hfzx32023 := blk_frozen BK173.out 2; have hfzx32024 := blk_frozen BK173.out 3; have hfzx32025 := blk_frozen BK173.out 4; have hfzx32026 := blk_frozen BK173.out 5; have hfzx32027 := blk_frozen BK173.out 6) | ((with_reducible refine gate_callee (f := 41) rfl ?_); refine goesL_ (some 37) rfl rfl Try.func41 (by kernel_rfl) rfl #[.agg #[.string a0_0, .int .i64 a0_1, .int .i64 a0_2, .int .i64 a0_3, .int .i64 a0_4, .int .i64 a0_5, .int .i64 a0_6], .int .i64 a1, .int .i64 a2, .int .i64 0] rfl (by (try simp only [List.map_toArray, List.map_cons, List.map_nil]); first | done | rfl | (simp only [List.length_drop, List.length_take]; rfl)) ?_; (with_reducible refine (fly_Profile.calls k a0_0 a0_1 a0_2 a0_3 a0_4 a0_5 a0_6 a1 a2 0 t177 t178 _ A9.out).mono ?_); rintro e wx8b6a1 ⟨rfl, hb⟩; refine ⟨_, rfl, ?_⟩; have n0_ := Aside0.mk (blk_below (g := gb173) (o := .cells #[.string a0_0, .int .i64 a0_1, .int .i64 a0_2, .int .i64 a0_3, .int .i64 a0_4, .int .i64 a0_5, .int .i64 a0_6] 63 (0, 0)) (by (with_reducible repeat (first | refine blk_drewN ?_ _ | refine blk_drew ?_ | refine blk_alloc ?_ _)); exact BK173.out) hb); have n1_ := Aside0.mk (below_step (by repeat (first | (with_reducible first | exact HB.out | apply below_alloc | apply pw_below_drewN | apply below_drew1 | refine below_set ?_ GE173.out) | exact HB.out)) hb); clear BK173; clear HB; have BK173 := n0_; have HB := n1_; clear n0_ n1_; (try clear hb); (try clear hb2); (try clear hk); (try clear hi); have hczx8b6a1 : wx8b6a1.cell? ⟨gb173, 0, none⟩ = some (.string a0_0) := (blk_cell BK173.out 0).trans rfl; have hczx8b6a2 : wx8b6a1.cell? ⟨gb173, 1, none⟩ = some (.int .i64 a0_1) := (blk_cell BK173.out 1).trans rfl; have hczx8b6a3 : wx8b6a1.cell? ⟨gb173, 2, none⟩ = some (.int .i64 a0_2) := (blk_cell BK173.out 2).trans rfl; have hczx8b6a4 : wx8b6a1.cell? ⟨gb173, 3, none⟩ = some (.int .i64 a0_3) := (blk_cell BK173.out 3).trans rfl; have hczx8b6a5 : wx8b6a1.cell? ⟨gb173, 4, none⟩ = some (.int .i64 a0_4) := (blk_cell BK173.out 4).trans rfl; have hczx8b6a6 : wx8b6a1.cell? ⟨gb173, 5, none⟩ = some (.int .i64 a0_5) := (blk_cell BK173.out 5).trans rfl; have hczx8b6a7 : wx8b6a1.cell? ⟨gb173, 6, none⟩ = some (.int .i64 a0_6) := (blk_cell BK173.out 6).trans rfl; have hfzx8b6a1 := blk_frozen BK173.out 0; have hfzx8b6a2 := blk_frozen BK173.out 1; have hfzx8b6a3 := blk_frozen BK173.out 2; have hfzx8b6a4 := blk_frozen BK173.out 3; have hfzx8b6a5 := blk_frozen BK173.out 4; have hfzx8b6a6 := blk_frozen BK173.out 5; have hfzx8b6a7 := blk_frozen BK173.out 6) | ((with_reducible refine gate_callee (f := 41) rfl ?_); refine goesL_ (some 45) rfl rfl Try.func41 (by kernel_rfl) rfl #[.agg #[.string a0_0, .int .i64 a0_1, .int .i64 a0_2, .int .i64 a0_3, .int .i64 a0_4, .int .i64 a0_5, .int .i64 a0_6], .int .i64 a1, .int .i64 a2, .int .i64 a2] rfl (by (try simp only [List.map_toArray, List.map_cons, List.map_nil]); first | done | rfl | (simp only [List.length_drop, List.length_take]; rfl)) ?_; (with_reducible refine (fly_Profile.calls k a0_0 a0_1 a0_2 a0_3 a0_4 a0_5 a0_6 a1 a2 a2 t179 t180 _ A10.out).mono ?_); rintro e wx29161 ⟨rfl, hb⟩; refine ⟨_, rfl, ?_⟩; have n0_ := Aside0.mk (blk_below (g := gb173) (o := .cells #[.string a0_0, .int .i64 a0_1, .int .i64 a0_2, .int .i64 a0_3, .int .i64 a0_4, .int .i64 a0_5, .int .i64 a0_6] 63 (0, 0)) (by (with_reducible repeat (first | refine blk_drewN ?_ _ | refine blk_drew ?_ | refine blk_alloc ?_ _)); exact BK173.out) hb); have n1_ := Aside0.mk (below_step (by repeat (first | (with_reducible first | exact HB.out | apply below_alloc | apply pw_below_drewN | apply below_drew1 | refine below_set ?_ GE173.out) | exact HB.out)) hb); clear BK173; clear HB; have BK173 := n0_; have HB := n1_; clear n0_ n1_; (try clear hb); (try clear hb2); (try clear hk); (try clear hi)))
     (try simp only [Act.put, List.setIfInBounds_toArray, List.set_cons_zero, List.set_cons_succ])
     go_cut [70] (fun v70 wc => ∃ (kq : Nat) (x70_10 : Bool), v70 = .bool x70_10 ∧ Aside0 (skywaykeep1_FlyProfile.j0 kq a1 a2 a3 t175 x70_10 a0_0 a0_1 a0_2 a0_3 a0_4 a0_5 a0_6 = some r) ∧ Aside0 (kq ≤ k) ∧ Aside0 (wc.heap[gb173]? = some (.cells #[.string a0_0, .int .i64 a0_1, .int .i64 a0_2, .int .i64 a0_3, .int .i64 a0_4, .int .i64 a0_5, .int .i64 a0_6] 63 (0, 0))) ∧ Aside0 (Below w.heap.size w wc))
     case first =>
      have H := HC11.out
      clear HC11
      refine Or.elim (Classical.em (t178 = 0)) (fun c20 => ?p5_) (fun c20 => ?n5_)
      case' p5_ =>
       rw [if_pos c20] at H
       have c20b0 : (t178 == 0) = true := beq_iff_eq.mpr c20
       have c20b1 : (t178 != 0) = false := bne_eq_false_iff_eq.mpr c20
       clear c20
       (first | rw [c20b0] | (simp only [i64_w, i32_w]; rw [c20b0]) | skip)
       refine Or.elim (Classical.em (t180 = 0)) (fun c21 => ?p6_) (fun c21 => ?n6_)
       case' p6_ =>
        rw [if_pos c21] at H
        have c21b0 : (t180 == 0) = true := beq_iff_eq.mpr c21
        have c21b1 : (t180 != 0) = false := bne_eq_false_iff_eq.mpr c21
        clear c21
        refine Or.elim (Classical.em (t177 = 0)) (fun c22 => ?p7_) (fun c22 => ?n7_)
        case' p7_ =>
         rw [if_pos c22] at H
         have c22b0 : (t177 == 0) = true := beq_iff_eq.mpr c22
         have c22b1 : (t177 != 0) = false := bne_eq_false_iff_eq.mpr c22
         clear c22
         refine Or.elim (Classical.em (t179 = 0)) (fun c23 => ?p8_) (fun c23 => ?n8_)
         case' p8_ =>
          rw [if_pos c23] at H
          have c23b0 : (t179 == 0) = true := beq_iff_eq.mpr c23
          have c23b1 : (t179 != 0) = false := bne_eq_false_iff_eq.mpr c23
          clear c23
          refine Or.elim (Classical.em (t175 < 0)) (fun c24 => ?p9_) (fun c24 => ?n9_)
          case' p9_ =>
           rw [if_pos c24] at H
           have c24b0 : decide (t175 < 0) = true := decide_eq_true c24
           clear c24
          case' n9_ =>
           rw [if_neg c24] at H
           have c24b0 : decide (t175 < 0) = false := decide_eq_false c24
           clear c24
         case' n8_ =>
          rw [if_neg c23] at H
          have c23b0 : (t179 == 0) = false := beq_eq_false_iff_ne.mpr c23
          have c23b1 : (t179 != 0) = true := bne_iff_ne.mpr c23
        case' n7_ =>
         rw [if_neg c22] at H
         have c22b0 : (t177 == 0) = false := beq_eq_false_iff_ne.mpr c22
         have c22b1 : (t177 != 0) = true := bne_iff_ne.mpr c22
       case' n6_ =>
        rw [if_neg c21] at H
        have c21b0 : (t180 == 0) = false := beq_eq_false_iff_ne.mpr c21
        have c21b1 : (t180 != 0) = true := bne_iff_ne.mpr c21
      case' n5_ =>
       rw [if_neg c20] at H
       have c20b0 : (t178 == 0) = false := beq_eq_false_iff_ne.mpr c20
       have c20b1 : (t178 != 0) = true := bne_iff_ne.mpr c20
       (first | rw [c20b0] | (simp only [i64_w, i32_w]; rw [c20b0]) | skip)
      all_goals
       have H' := Aside0.mk H
       clear H
       go_wp2
       go_meet
       case rel => first | (exact ⟨_, (true), (by first | rfl | (simp; done) | (simp [*]; done)), H', ⟨by first | omega | exact Nat.le_refl _⟩, ⟨by (with_reducible repeat (first | refine blk_drewN ?_ _ | refine blk_drew ?_ | refine blk_alloc ?_ _)); exact BK173.out⟩, ⟨by repeat (first | (with_reducible first | exact HB.out | apply below_alloc | apply pw_below_drewN | apply below_drew1 | refine below_set ?_ GE173.out) | exact HB.out)⟩⟩) | (exact ⟨_, (decide (t175 > a1)), (by first | rfl | (simp; done) | (simp [*]; done)), H', ⟨by first | omega | exact Nat.le_refl _⟩, ⟨by (with_reducible repeat (first | refine blk_drewN ?_ _ | refine blk_drew ?_ | refine blk_alloc ?_ _)); exact BK173.out⟩, ⟨by repeat (first | (with_reducible first | exact HB.out | apply below_alloc | apply pw_below_drewN | apply below_drew1 | refine below_set ?_ GE173.out) | exact HB.out)⟩⟩)
     case rest =>
      clear HC11
      (try clear c1); (try clear p1); (try clear c2); (try clear p2); (try clear c3); (try clear c4); (try clear c6); (try clear c8); (try clear c8b0); (try clear c8b1); (try clear c14); (try clear c20); (try clear c20b0); (try clear c20b1); (try clear c21); (try clear c21b0); (try clear c21b1); (try clear c22); (try clear c22b0); (try clear c22b1); (try clear c23); (try clear c23b0); (try clear c23b1); (try clear c24); (try clear c24b0); (try clear hczx24e61); (try clear hczx24e62); (try clear hczx24e63); (try clear hczx24e64); (try clear hczx24e65); (try clear hczx24e66); (try clear hczx24e67); (try clear hczx32021); (try clear hczx32022); (try clear hczx32023); (try clear hczx32024); (try clear hczx32025); (try clear hczx32026); (try clear hczx32027); (try clear hczx8b6a1)
      (try clear hczx8b6a2); (try clear hczx8b6a3); (try clear hczx8b6a4); (try clear hczx8b6a5); (try clear hczx8b6a6); (try clear hczx8b6a7); (try clear hfzx24e61); (try clear hfzx24e62); (try clear hfzx24e63); (try clear hfzx24e64); (try clear hfzx24e65); (try clear hfzx24e66); (try clear hfzx24e67); (try clear hfzx32021); (try clear hfzx32022); (try clear hfzx32023); (try clear hfzx32024); (try clear hfzx32025); (try clear hfzx32026); (try clear hfzx32027); (try clear hfzx8b6a1); (try clear hfzx8b6a2); (try clear hfzx8b6a3); (try clear hfzx8b6a4); (try clear hfzx8b6a5); (try clear hfzx8b6a6); (try clear hfzx8b6a7)
      obtain ⟨kq, x70_10, rfl, HA, HJ10, BK173, HB⟩ := hcut
      cases kq with
      | zero => exact absurd HA.out (by simp [skywaykeep1_FlyProfile.j0])
      | succ kj10 =>
       have H := HA.out
       clear HA
       simp only [skywaykeep1_FlyProfile.j0] at H
       refine Or.elim (Classical.em (x70_10 = true)) (fun c25 => ?p11_) (fun c25 => ?n11_)
       case' p11_ =>
        subst c25
        have H1 : (some false) = some r := by rw [if_pos rfl] at H; exact H
        clear H
        have H := H1
        clear H1
        have hm10_0 := Aside0.mk trivial
       case' n11_ =>
        replace c25 := Bool.eq_false_iff.mpr c25
        subst c25
        have H1 : (if a3 = a2 then (some true) else ((fly_Profile.f kj10 a0_0 a0_1 a0_2 a0_3 a0_4 a0_5 a0_6 a1 a2 (wrap64 (a3 + 1))).bind fun bt181 => ((aircraft_Climb.f kj10 a0_0 a0_1 a0_2 a0_3 a0_4 a0_5 a0_6 t175 bt181.1).bind fun bt183 => (if bt181.2 = 0 then (if bt183.2 = 0 then (some (decide (bt183.1 ≤ 1))) else (some false)) else (some false))))) = some r := by rw [if_neg (show ¬ (false = true) by decide)] at H; exact H
        clear H
        have H := H1
        clear H1
        refine Or.elim (Classical.em (a3 = a2)) (fun c26 => ?p12_) (fun c26 => ?n12_)
        case' p12_ =>
         rw [if_pos c26] at H
         have c26b0 : (a3 == a2) = true := beq_iff_eq.mpr c26
         have c26b1 : (a3 != a2) = false := bne_eq_false_iff_eq.mpr c26
         clear c26
         have hm10_0 := Aside0.mk trivial
        case' n12_ =>
         rw [if_neg c26] at H
         have c26b0 : (a3 == a2) = false := beq_eq_false_iff_ne.mpr c26
         have c26b1 : (a3 != a2) = true := bne_iff_ne.mpr c26
         replace H := Option.bind_eq_some_iff.mp H
         obtain ⟨⟨t181, t182⟩, A270, H⟩ := H
         replace H : ((aircraft_Climb.f kj10 a0_0 a0_1 a0_2 a0_3 a0_4 a0_5 a0_6 t175 t181).bind fun bt183 => (if t182 = 0 then (if bt183.2 = 0 then (some (decide (bt183.1 ≤ 1))) else (some false)) else (some false))) = some r := H
         have A27 := Aside0.mk A270
         clear A270
         replace H := Option.bind_eq_some_iff.mp H
         obtain ⟨⟨t183, t184⟩, A280, H⟩ := H
         replace H : (if t182 = 0 then (if t184 = 0 then (some (decide (t183 ≤ 1))) else (some false)) else (some false)) = some r := H
         have A28 := Aside0.mk A280
         clear A280
         refine Or.elim (Classical.em (t182 = 0)) (fun c29 => ?p13_) (fun c29 => ?n13_)
         case' p13_ =>
          rw [if_pos c29] at H
          have c29b0 : (t182 == 0) = true := beq_iff_eq.mpr c29
          have c29b1 : (t182 != 0) = false := bne_eq_false_iff_eq.mpr c29
          clear c29
          refine Or.elim (Classical.em (t184 = 0)) (fun c30 => ?p14_) (fun c30 => ?n14_)
          case' p14_ =>
           rw [if_pos c30] at H
           have c30b0 : (t184 == 0) = true := beq_iff_eq.mpr c30
           have c30b1 : (t184 != 0) = false := bne_eq_false_iff_eq.mpr c30
           clear c30
           have hm10_1 := Aside0.mk trivial
          case' n14_ =>
           rw [if_neg c30] at H
           have c30b0 : (t184 == 0) = false := beq_eq_false_iff_ne.mpr c30
           have c30b1 : (t184 != 0) = true := bne_iff_ne.mpr c30
           have hm10_2 := Aside0.mk trivial
         case' n13_ =>
          rw [if_neg c29] at H
          have c29b0 : (t182 == 0) = false := beq_eq_false_iff_ne.mpr c29
          have c29b1 : (t182 != 0) = true := bne_iff_ne.mpr c29
          have hm10_3 := Aside0.mk trivial
       all_goals
        obtain rfl := Option.some.inj H
        first
         | clear hm10_0
           go_wp2
           go_ret
           exact ⟨by first | rfl | (simp [errW_none, errW_some] <;> rfl) | (simp [*, errW_none, errW_some] <;> rfl), by repeat (first | (with_reducible first | exact HB.out | apply below_alloc | apply pw_below_drewN | apply below_drew1 | refine below_set ?_ GE173.out) | exact HB.out)⟩
         | clear hm10_1
           have hczz1 : wc.cell? ⟨gb173, 0, none⟩ = some (.string a0_0) := (blk_cell BK173.out 0).trans rfl
           have hczz2 : wc.cell? ⟨gb173, 1, none⟩ = some (.int .i64 a0_1) := (blk_cell BK173.out 1).trans rfl
           have hczz3 : wc.cell? ⟨gb173, 2, none⟩ = some (.int .i64 a0_2) := (blk_cell BK173.out 2).trans rfl
           have hczz4 : wc.cell? ⟨gb173, 3, none⟩ = some (.int .i64 a0_3) := (blk_cell BK173.out 3).trans rfl
           have hczz5 : wc.cell? ⟨gb173, 4, none⟩ = some (.int .i64 a0_4) := (blk_cell BK173.out 4).trans rfl
           have hczz6 : wc.cell? ⟨gb173, 5, none⟩ = some (.int .i64 a0_5) := (blk_cell BK173.out 5).trans rfl
           have hczz7 : wc.cell? ⟨gb173, 6, none⟩ = some (.int .i64 a0_6) := (blk_cell BK173.out 6).trans rfl
           have hfzz1 := blk_frozen BK173.out 0
           have hfzz2 := blk_frozen BK173.out 1
           have hfzz3 := blk_frozen BK173.out 2
           have hfzz4 := blk_frozen BK173.out 3
           have hfzz5 := blk_frozen BK173.out 4
           have hfzz6 := blk_frozen BK173.out 5
           have hfzz7 := blk_frozen BK173.out 6
           go_wp2_with (first | ((with_reducible refine gate_callee (f := 41) rfl ?_); refine goesL_ (some 80) rfl rfl Try.func41 (by kernel_rfl) rfl #[.agg #[.string a0_0, .int .i64 a0_1, .int .i64 a0_2, .int .i64 a0_3, .int .i64 a0_4, .int .i64 a0_5, .int .i64 a0_6], .int .i64 a1, .int .i64 a2, .int .i64 (wrap64 (a3 + 1))] rfl (by (try simp only [List.map_toArray, List.map_cons, List.map_nil]); first | done | rfl | (simp only [List.length_drop, List.length_take]; rfl)) ?_; (with_reducible refine (fly_Profile.calls kj10 a0_0 a0_1 a0_2 a0_3 a0_4 a0_5 a0_6 a1 a2 (wrap64 (a3 + 1)) t181 t182 _ A27.out).mono ?_); rintro e wx3c711 ⟨rfl, hb⟩; refine ⟨_, rfl, ?_⟩; have n0_ := Aside0.mk (blk_below (g := gb173) (o := .cells #[.string a0_0, .int .i64 a0_1, .int .i64 a0_2, .int .i64 a0_3, .int .i64 a0_4, .int .i64 a0_5, .int .i64 a0_6] 63 (0, 0)) (by (with_reducible repeat (first | refine blk_drewN ?_ _ | refine blk_drew ?_ | refine blk_alloc ?_ _)); exact BK173.out) hb); have n1_ := Aside0.mk (below_step (by repeat (first | (with_reducible first | exact HB.out | apply below_alloc | apply pw_below_drewN | apply below_drew1 | refine below_set ?_ GE173.out) | exact HB.out)) hb); clear BK173; clear HB; have BK173 := n0_; have HB := n1_; clear n0_ n1_; (try clear hb); (try clear hb2); (try clear hk); (try clear hi); have hczx3c711 : wx3c711.cell? ⟨gb173, 0, none⟩ = some (.string a0_0) := (blk_cell BK173.out 0).trans rfl; have hczx3c712 : wx3c711.cell? ⟨gb173, 1, none⟩ = some (.int .i64 a0_1) := (blk_cell BK173.out 1).trans rfl; have hczx3c713 : wx3c711.cell? ⟨gb173, 2, none⟩ = some (.int .i64 a0_2) := (blk_cell BK173.out 2).trans rfl; have hczx3c714 : wx3c711.cell? ⟨gb173, 3, none⟩ = some (.int .i64 a0_3) := (blk_cell BK173.out 3).trans rfl; have hczx3c715 : wx3c711.cell? ⟨gb173, 4, none⟩ = some (.int .i64 a0_4) := (blk_cell BK173.out 4).trans rfl; have hczx3c716 : wx3c711.cell? ⟨gb173, 5, none⟩ = some (.int .i64 a0_5) := (blk_cell BK173.out 5).trans rfl; have hczx3c717 : wx3c711.cell? ⟨gb173, 6, none⟩ = some (.int .i64 a0_6) := (blk_cell BK173.out 6).trans rfl; have hfzx3c711 := blk_frozen BK173.out 0; have hfzx3c712 := blk_frozen BK173.out 1; have hfzx3c713 := blk_frozen BK173.out 2; have hfzx3c714 := blk_frozen BK173.out 3; have hfzx3c715 := blk_frozen BK173.out 4; have hfzx3c716 := blk_frozen BK173.out 5; have hfzx3c717 := blk_frozen BK173.out 6) | ((with_reducible refine gate_callee (f := 42) rfl ?_); refine goesL_ (some 87) rfl rfl Try.func42 (by kernel_rfl) rfl #[.agg #[.string a0_0, .int .i64 a0_1, .int .i64 a0_2, .int .i64 a0_3, .int .i64 a0_4, .int .i64 a0_5, .int .i64 a0_6], .int .i64 t175, .int .i64 t181] rfl (by (try simp only [List.map_toArray, List.map_cons, List.map_nil]); first | done | rfl | (simp only [List.length_drop, List.length_take]; rfl)) ?_; (with_reducible refine (aircraft_Climb.calls kj10 a0_0 a0_1 a0_2 a0_3 a0_4 a0_5 a0_6 t175 t181 t183 t184 _ A28.out).mono ?_); rintro e wx28571 ⟨rfl, hb⟩; refine ⟨_, rfl, ?_⟩; have n0_ := Aside0.mk (blk_below (g := gb173) (o := .cells #[.string a0_0, .int .i64 a0_1, .int .i64 a0_2, .int .i64 a0_3, .int .i64 a0_4, .int .i64 a0_5, .int .i64 a0_6] 63 (0, 0)) (by (with_reducible repeat (first | refine blk_drewN ?_ _ | refine blk_drew ?_ | refine blk_alloc ?_ _)); exact BK173.out) hb); have n1_ := Aside0.mk (below_step (by repeat (first | (with_reducible first | exact HB.out | apply below_alloc | apply pw_below_drewN | apply below_drew1 | refine below_set ?_ GE173.out) | exact HB.out)) hb); clear BK173; clear HB; have BK173 := n0_; have HB := n1_; clear n0_ n1_; (try clear hb); (try clear hb2); (try clear hk); (try clear hi)))
           go_ret
           exact ⟨by first | rfl | (simp [errW_none, errW_some] <;> rfl) | (simp [*, errW_none, errW_some] <;> rfl), by repeat (first | (with_reducible first | exact HB.out | apply below_alloc | apply pw_below_drewN | apply below_drew1 | refine below_set ?_ GE173.out) | exact HB.out)⟩
         | clear hm10_2
           have hczz8 : wc.cell? ⟨gb173, 0, none⟩ = some (.string a0_0) := (blk_cell BK173.out 0).trans rfl
           have hczz9 : wc.cell? ⟨gb173, 1, none⟩ = some (.int .i64 a0_1) := (blk_cell BK173.out 1).trans rfl
           have hczz10 : wc.cell? ⟨gb173, 2, none⟩ = some (.int .i64 a0_2) := (blk_cell BK173.out 2).trans rfl
           have hczz11 : wc.cell? ⟨gb173, 3, none⟩ = some (.int .i64 a0_3) := (blk_cell BK173.out 3).trans rfl
           have hczz12 : wc.cell? ⟨gb173, 4, none⟩ = some (.int .i64 a0_4) := (blk_cell BK173.out 4).trans rfl
           have hczz13 : wc.cell? ⟨gb173, 5, none⟩ = some (.int .i64 a0_5) := (blk_cell BK173.out 5).trans rfl
           have hczz14 : wc.cell? ⟨gb173, 6, none⟩ = some (.int .i64 a0_6) := (blk_cell BK173.out 6).trans rfl
           have hfzz8 := blk_frozen BK173.out 0
           have hfzz9 := blk_frozen BK173.out 1
           have hfzz10 := blk_frozen BK173.out 2
           have hfzz11 := blk_frozen BK173.out 3
           have hfzz12 := blk_frozen BK173.out 4
           have hfzz13 := blk_frozen BK173.out 5
           have hfzz14 := blk_frozen BK173.out 6
           go_wp2_with (first | ((with_reducible refine gate_callee (f := 41) rfl ?_); refine goesL_ (some 80) rfl rfl Try.func41 (by kernel_rfl) rfl #[.agg #[.string a0_0, .int .i64 a0_1, .int .i64 a0_2, .int .i64 a0_3, .int .i64 a0_4, .int .i64 a0_5, .int .i64 a0_6], .int .i64 a1, .int .i64 a2, .int .i64 (wrap64 (a3 + 1))] rfl (by (try simp only [List.map_toArray, List.map_cons, List.map_nil]); first | done | rfl | (simp only [List.length_drop, List.length_take]; rfl)) ?_; (with_reducible refine (fly_Profile.calls kj10 a0_0 a0_1 a0_2 a0_3 a0_4 a0_5 a0_6 a1 a2 (wrap64 (a3 + 1)) t181 t182 _ A27.out).mono ?_); rintro e wx3c711 ⟨rfl, hb⟩; refine ⟨_, rfl, ?_⟩; have n0_ := Aside0.mk (blk_below (g := gb173) (o := .cells #[.string a0_0, .int .i64 a0_1, .int .i64 a0_2, .int .i64 a0_3, .int .i64 a0_4, .int .i64 a0_5, .int .i64 a0_6] 63 (0, 0)) (by (with_reducible repeat (first | refine blk_drewN ?_ _ | refine blk_drew ?_ | refine blk_alloc ?_ _)); exact BK173.out) hb); have n1_ := Aside0.mk (below_step (by repeat (first | (with_reducible first | exact HB.out | apply below_alloc | apply pw_below_drewN | apply below_drew1 | refine below_set ?_ GE173.out) | exact HB.out)) hb); clear BK173; clear HB; have BK173 := n0_; have HB := n1_; clear n0_ n1_; (try clear hb); (try clear hb2); (try clear hk); (try clear hi); have hczx3c711 : wx3c711.cell? ⟨gb173, 0, none⟩ = some (.string a0_0) := (blk_cell BK173.out 0).trans rfl; have hczx3c712 : wx3c711.cell? ⟨gb173, 1, none⟩ = some (.int .i64 a0_1) := (blk_cell BK173.out 1).trans rfl; have hczx3c713 : wx3c711.cell? ⟨gb173, 2, none⟩ = some (.int .i64 a0_2) := (blk_cell BK173.out 2).trans rfl; have hczx3c714 : wx3c711.cell? ⟨gb173, 3, none⟩ = some (.int .i64 a0_3) := (blk_cell BK173.out 3).trans rfl; have hczx3c715 : wx3c711.cell? ⟨gb173, 4, none⟩ = some (.int .i64 a0_4) := (blk_cell BK173.out 4).trans rfl; have hczx3c716 : wx3c711.cell? ⟨gb173, 5, none⟩ = some (.int .i64 a0_5) := (blk_cell BK173.out 5).trans rfl; have hczx3c717 : wx3c711.cell? ⟨gb173, 6, none⟩ = some (.int .i64 a0_6) := (blk_cell BK173.out 6).trans rfl; have hfzx3c711 := blk_frozen BK173.out 0; have hfzx3c712 := blk_frozen BK173.out 1; have hfzx3c713 := blk_frozen BK173.out 2; have hfzx3c714 := blk_frozen BK173.out 3; have hfzx3c715 := blk_frozen BK173.out 4; have hfzx3c716 := blk_frozen BK173.out 5; have hfzx3c717 := blk_frozen BK173.out 6) | ((with_reducible refine gate_callee (f := 42) rfl ?_); refine goesL_ (some 87) rfl rfl Try.func42 (by kernel_rfl) rfl #[.agg #[.string a0_0, .int .i64 a0_1, .int .i64 a0_2, .int .i64 a0_3, .int .i64 a0_4, .int .i64 a0_5, .int .i64 a0_6], .int .i64 t175, .int .i64 t181] rfl (by (try simp only [List.map_toArray, List.map_cons, List.map_nil]); first | done | rfl | (simp only [List.length_drop, List.length_take]; rfl)) ?_; (with_reducible refine (aircraft_Climb.calls kj10 a0_0 a0_1 a0_2 a0_3 a0_4 a0_5 a0_6 t175 t181 t183 t184 _ A28.out).mono ?_); rintro e wx28571 ⟨rfl, hb⟩; refine ⟨_, rfl, ?_⟩; have n0_ := Aside0.mk (blk_below (g := gb173) (o := .cells #[.string a0_0, .int .i64 a0_1, .int .i64 a0_2, .int .i64 a0_3, .int .i64 a0_4, .int .i64 a0_5, .int .i64 a0_6] 63 (0, 0)) (by (with_reducible repeat (first | refine blk_drewN ?_ _ | refine blk_drew ?_ | refine blk_alloc ?_ _)); exact BK173.out) hb); have n1_ := Aside0.mk (below_step (by repeat (first | (with_reducible first | exact HB.out | apply below_alloc | apply pw_below_drewN | apply below_drew1 | refine below_set ?_ GE173.out) | exact HB.out)) hb); clear BK173; clear HB; have BK173 := n0_; have HB := n1_; clear n0_ n1_; (try clear hb); (try clear hb2); (try clear hk); (try clear hi)))
           go_ret
           exact ⟨by first | rfl | (simp [errW_none, errW_some] <;> rfl) | (simp [*, errW_none, errW_some] <;> rfl), by repeat (first | (with_reducible first | exact HB.out | apply below_alloc | apply pw_below_drewN | apply below_drew1 | refine below_set ?_ GE173.out) | exact HB.out)⟩
         | clear hm10_3
           have hczz15 : wc.cell? ⟨gb173, 0, none⟩ = some (.string a0_0) := (blk_cell BK173.out 0).trans rfl
           have hczz16 : wc.cell? ⟨gb173, 1, none⟩ = some (.int .i64 a0_1) := (blk_cell BK173.out 1).trans rfl
           have hczz17 : wc.cell? ⟨gb173, 2, none⟩ = some (.int .i64 a0_2) := (blk_cell BK173.out 2).trans rfl
           have hczz18 : wc.cell? ⟨gb173, 3, none⟩ = some (.int .i64 a0_3) := (blk_cell BK173.out 3).trans rfl
           have hczz19 : wc.cell? ⟨gb173, 4, none⟩ = some (.int .i64 a0_4) := (blk_cell BK173.out 4).trans rfl
           have hczz20 : wc.cell? ⟨gb173, 5, none⟩ = some (.int .i64 a0_5) := (blk_cell BK173.out 5).trans rfl
           have hczz21 : wc.cell? ⟨gb173, 6, none⟩ = some (.int .i64 a0_6) := (blk_cell BK173.out 6).trans rfl
           have hfzz15 := blk_frozen BK173.out 0
           have hfzz16 := blk_frozen BK173.out 1
           have hfzz17 := blk_frozen BK173.out 2
           have hfzz18 := blk_frozen BK173.out 3
           have hfzz19 := blk_frozen BK173.out 4
           have hfzz20 := blk_frozen BK173.out 5
           have hfzz21 := blk_frozen BK173.out 6
           go_wp2_with (first | ((with_reducible refine gate_callee (f := 41) rfl ?_); refine goesL_ (some 80) rfl rfl Try.func41 (by kernel_rfl) rfl #[.agg #[.string a0_0, .int .i64 a0_1, .int .i64 a0_2, .int .i64 a0_3, .int .i64 a0_4, .int .i64 a0_5, .int .i64 a0_6], .int .i64 a1, .int .i64 a2, .int .i64 (wrap64 (a3 + 1))] rfl (by (try simp only [List.map_toArray, List.map_cons, List.map_nil]); first | done | rfl | (simp only [List.length_drop, List.length_take]; rfl)) ?_; (with_reducible refine (fly_Profile.calls kj10 a0_0 a0_1 a0_2 a0_3 a0_4 a0_5 a0_6 a1 a2 (wrap64 (a3 + 1)) t181 t182 _ A27.out).mono ?_); rintro e wx3c711 ⟨rfl, hb⟩; refine ⟨_, rfl, ?_⟩; have n0_ := Aside0.mk (blk_below (g := gb173) (o := .cells #[.string a0_0, .int .i64 a0_1, .int .i64 a0_2, .int .i64 a0_3, .int .i64 a0_4, .int .i64 a0_5, .int .i64 a0_6] 63 (0, 0)) (by (with_reducible repeat (first | refine blk_drewN ?_ _ | refine blk_drew ?_ | refine blk_alloc ?_ _)); exact BK173.out) hb); have n1_ := Aside0.mk (below_step (by repeat (first | (with_reducible first | exact HB.out | apply below_alloc | apply pw_below_drewN | apply below_drew1 | refine below_set ?_ GE173.out) | exact HB.out)) hb); clear BK173; clear HB; have BK173 := n0_; have HB := n1_; clear n0_ n1_; (try clear hb); (try clear hb2); (try clear hk); (try clear hi); have hczx3c711 : wx3c711.cell? ⟨gb173, 0, none⟩ = some (.string a0_0) := (blk_cell BK173.out 0).trans rfl; have hczx3c712 : wx3c711.cell? ⟨gb173, 1, none⟩ = some (.int .i64 a0_1) := (blk_cell BK173.out 1).trans rfl; have hczx3c713 : wx3c711.cell? ⟨gb173, 2, none⟩ = some (.int .i64 a0_2) := (blk_cell BK173.out 2).trans rfl; have hczx3c714 : wx3c711.cell? ⟨gb173, 3, none⟩ = some (.int .i64 a0_3) := (blk_cell BK173.out 3).trans rfl; have hczx3c715 : wx3c711.cell? ⟨gb173, 4, none⟩ = some (.int .i64 a0_4) := (blk_cell BK173.out 4).trans rfl; have hczx3c716 : wx3c711.cell? ⟨gb173, 5, none⟩ = some (.int .i64 a0_5) := (blk_cell BK173.out 5).trans rfl; have hczx3c717 : wx3c711.cell? ⟨gb173, 6, none⟩ = some (.int .i64 a0_6) := (blk_cell BK173.out 6).trans rfl; have hfzx3c711 := blk_frozen BK173.out 0; have hfzx3c712 := blk_frozen BK173.out 1; have hfzx3c713 := blk_frozen BK173.out 2; have hfzx3c714 := blk_frozen BK173.out 3; have hfzx3c715 := blk_frozen BK173.out 4; have hfzx3c716 := blk_frozen BK173.out 5; have hfzx3c717 := blk_frozen BK173.out 6) | ((with_reducible refine gate_callee (f := 42) rfl ?_); refine goesL_ (some 87) rfl rfl Try.func42 (by kernel_rfl) rfl #[.agg #[.string a0_0, .int .i64 a0_1, .int .i64 a0_2, .int .i64 a0_3, .int .i64 a0_4, .int .i64 a0_5, .int .i64 a0_6], .int .i64 t175, .int .i64 t181] rfl (by (try simp only [List.map_toArray, List.map_cons, List.map_nil]); first | done | rfl | (simp only [List.length_drop, List.length_take]; rfl)) ?_; (with_reducible refine (aircraft_Climb.calls kj10 a0_0 a0_1 a0_2 a0_3 a0_4 a0_5 a0_6 t175 t181 t183 t184 _ A28.out).mono ?_); rintro e wx28571 ⟨rfl, hb⟩; refine ⟨_, rfl, ?_⟩; have n0_ := Aside0.mk (blk_below (g := gb173) (o := .cells #[.string a0_0, .int .i64 a0_1, .int .i64 a0_2, .int .i64 a0_3, .int .i64 a0_4, .int .i64 a0_5, .int .i64 a0_6] 63 (0, 0)) (by (with_reducible repeat (first | refine blk_drewN ?_ _ | refine blk_drew ?_ | refine blk_alloc ?_ _)); exact BK173.out) hb); have n1_ := Aside0.mk (below_step (by repeat (first | (with_reducible first | exact HB.out | apply below_alloc | apply pw_below_drewN | apply below_drew1 | refine below_set ?_ GE173.out) | exact HB.out)) hb); clear BK173; clear HB; have BK173 := n0_; have HB := n1_; clear n0_ n1_; (try clear hb); (try clear hb2); (try clear hk); (try clear hi)))
           go_ret
           exact ⟨by first | rfl | (simp [errW_none, errW_some] <;> rfl) | (simp [*, errW_none, errW_some] <;> rfl), by repeat (first | (with_reducible first | exact HB.out | apply below_alloc | apply pw_below_drewN | apply below_drew1 | refine below_set ?_ GE173.out) | exact HB.out)⟩
   | clear hm1_1
     obtain rfl := Option.some.inj H
     go_enter Try.func14, Try.ntmps14
     go_wp2_with (first | ((with_reducible refine gate_dst (N := 4) rfl ?_); refine box_event ?hg (N := 4) ?hd (cs := #[.string a0_0, .int .i64 a0_1, .int .i64 a0_2, .int .i64 a0_3, .int .i64 a0_4, .int .i64 a0_5, .int .i64 a0_6]) (t := 63) ?hr ?_; (case hd => rfl); (case hg => rfl); (case hr => first | (go_simp; done) | (go_simp; rfl)); intro gb173 hg wx82a91 hbox hb; have n0_ := Aside0.mk (below_step (by repeat (first | (with_reducible first | exact HB.out | apply below_alloc | apply pw_below_drewN | apply below_drew1) | exact HB.out)) hb); have n1_ := Aside0.mk (hbox); have n2_ := Aside0.mk ((by rw [hg]; exact (below_size (by repeat (first | (with_reducible first | exact HB.out | apply below_alloc | apply pw_below_drewN | apply below_drew1) | exact HB.out))) : w.heap.size ≤ gb173)); have n3_ := Aside0.mk ((by rw [hg]; exact (below_size (by repeat (first | (with_reducible first | exact HB.out | apply below_alloc | apply pw_below_drewN | apply below_drew1) | exact HB.out))) : w.heap.size ≤ gb173)); clear HB; have HB := n0_; have BK173 := n1_; have GW173 := n2_; have GE173 := n3_; clear n0_ n1_ n2_ n3_; clear hb hbox hg) | ((with_reducible refine gate_callee (f := 33) rfl ?_); refine goesL_ (some 19) rfl rfl Try.func33 (by kernel_rfl) rfl #[] rfl (by (try simp only [List.map_toArray, List.map_cons, List.map_nil]); first | done | rfl | (simp only [List.length_drop, List.length_take]; rfl)) ?_; (with_reducible refine (skywaykeep1_flyWorks.calls k  true _ A5.out).mono ?_); rintro e wx24e61 ⟨rfl, hb⟩; refine ⟨_, rfl, ?_⟩; have n0_ := Aside0.mk (blk_below (g := gb173) (o := .cells #[.string a0_0, .int .i64 a0_1, .int .i64 a0_2, .int .i64 a0_3, .int .i64 a0_4, .int .i64 a0_5, .int .i64 a0_6] 63 (0, 0)) (by (with_reducible repeat (first | refine blk_drewN ?_ _ | refine blk_drew ?_ | refine blk_alloc ?_ _)); exact BK173.out) hb); have n1_ := Aside0.mk (below_step (by repeat (first | (with_reducible first | exact HB.out | apply below_alloc | apply pw_below_drewN | apply below_drew1 | refine below_set ?_ GE173.out) | exact HB.out)) hb); clear BK173; clear HB; have BK173 := n0_; have HB := n1_; clear n0_ n1_; (try clear hb); (try clear hb2); (try clear hk); (try clear hi); have hczx24e61 : wx24e61.cell? ⟨gb173, 0, none⟩ = some (.string a0_0) := (blk_cell BK173.out 0).trans rfl; have hczx24e62 : wx24e61.cell? ⟨gb173, 1, none⟩ = some (.int .i64 a0_1) := (blk_cell BK173.out 1).trans rfl; have hczx24e63 : wx24e61.cell? ⟨gb173, 2, none⟩ = some (.int .i64 a0_2) := (blk_cell BK173.out 2).trans rfl; have hczx24e64 : wx24e61.cell? ⟨gb173, 3, none⟩ = some (.int .i64 a0_3) := (blk_cell BK173.out 3).trans rfl; have hczx24e65 : wx24e61.cell? ⟨gb173, 4, none⟩ = some (.int .i64 a0_4) := (blk_cell BK173.out 4).trans rfl; have hczx24e66 : wx24e61.cell? ⟨gb173, 5, none⟩ = some (.int .i64 a0_5) := (blk_cell BK173.out 5).trans rfl; have hczx24e67 : wx24e61.cell? ⟨gb173, 6, none⟩ = some (.int .i64 a0_6) := (blk_cell BK173.out 6).trans rfl; have hfzx24e61 := blk_frozen BK173.out 0; have hfzx24e62 := blk_frozen BK173.out 1; have hfzx24e63 := blk_frozen BK173.out 2; have hfzx24e64 := blk_frozen BK173.out 3; have hfzx24e65 := blk_frozen BK173.out 4; have hfzx24e66 := blk_frozen BK173.out 5; have hfzx24e67 := blk_frozen BK173.out 6) | ((with_reducible refine gate_callee (f := 33) rfl ?_); refine goesL_ (some 19) rfl rfl Try.func33 (by kernel_rfl) rfl #[] rfl (by (try simp only [List.map_toArray, List.map_cons, List.map_nil]); first | done | rfl | (simp only [List.length_drop, List.length_take]; rfl)) ?_; (with_reducible refine (skywaykeep1_flyWorks.calls k  false _ A5.out).mono ?_); rintro e wx5c021 ⟨rfl, hb⟩; refine ⟨_, rfl, ?_⟩; have n0_ := Aside0.mk (blk_below (g := gb173) (o := .cells #[.string a0_0, .int .i64 a0_1, .int .i64 a0_2, .int .i64 a0_3, .int .i64 a0_4, .int .i64 a0_5, .int .i64 a0_6] 63 (0, 0)) (by (with_reducible repeat (first | refine blk_drewN ?_ _ | refine blk_drew ?_ | refine blk_alloc ?_ _)); exact BK173.out) hb); have n1_ := Aside0.mk (below_step (by repeat (first | (with_reducible first | exact HB.out | apply below_alloc | apply pw_below_drewN | apply below_drew1 | refine below_set ?_ GE173.out) | exact HB.out)) hb); clear BK173; clear HB; have BK173 := n0_; have HB := n1_; clear n0_ n1_; (try clear hb); (try clear hb2); (try clear hk); (try clear hi)) | ((with_reducible refine gate_callee (f := 41) rfl ?_); refine goesL_ (some 26) rfl rfl Try.func41 (by kernel_rfl) rfl #[.agg #[.string a0_0, .int .i64 a0_1, .int .i64 a0_2, .int .i64 a0_3, .int .i64 a0_4, .int .i64 a0_5, .int .i64 a0_6], .int .i64 a1, .int .i64 a2, .int .i64 a3] rfl (by (try simp only [List.map_toArray, List.map_cons, List.map_nil]); first | done | rfl | (simp only [List.length_drop, List.length_take]; rfl)) ?_; (with_reducible refine (fly_Profile.calls k a0_0 a0_1 a0_2 a0_3 a0_4 a0_5 a0_6 a1 a2 a3 t175 t176 _ A7.out).mono ?_); rintro e wxe1ec1 ⟨rfl, hb⟩; refine ⟨_, rfl, ?_⟩; have n0_ := Aside0.mk (blk_below (g := gb173) (o := .cells #[.string a0_0, .int .i64 a0_1, .int .i64 a0_2, .int .i64 a0_3, .int .i64 a0_4, .int .i64 a0_5, .int .i64 a0_6] 63 (0, 0)) (by (with_reducible repeat (first | refine blk_drewN ?_ _ | refine blk_drew ?_ | refine blk_alloc ?_ _)); exact BK173.out) hb); have n1_ := Aside0.mk (below_step (by repeat (first | (with_reducible first | exact HB.out | apply below_alloc | apply pw_below_drewN | apply below_drew1 | refine below_set ?_ GE173.out) | exact HB.out)) hb); clear BK173; clear HB; have BK173 := n0_; have HB := n1_; clear n0_ n1_; (try clear hb); (try clear hb2); (try clear hk); (try clear hi)))
     go_ret
     exact ⟨by first | rfl | (simp [errW_none, errW_some] <;> rfl) | (simp [*, errW_none, errW_some] <;> rfl), by repeat (first | (with_reducible first | exact HB.out | apply below_alloc | apply pw_below_drewN | apply below_drew1 | refine below_set ?_ GE173.out) | exact HB.out)⟩

/-- What is told of a value of struct type 63 that came in. -/
def good63 (x : S63) : Prop := (x.f0.size ≤ 140737488351232) ∧ ((Lit.int .i64 x.f1).wf = true) ∧ ((Lit.int .i64 x.f2).wf = true) ∧ ((Lit.int .i64 x.f3).wf = true) ∧ ((Lit.int .i64 x.f4).wf = true) ∧ ((Lit.int .i64 x.f5).wf = true) ∧ (Lit.int .i64 x.f6).wf = true
/-- THE ONE PURE STATEMENT of skywaykeep1_FlyProfile. -/
def skywaykeep1_FlyProfile.Pure : Prop := ∀ (a0_0 : ByteArray) (a0_1 : Int) (a0_2 : Int) (a0_3 : Int) (a0_4 : Int) (a0_5 : Int) (a0_6 : Int) (a1 : Int) (a2 : Int) (a3 : Int), (a0_0.size ≤ 140737488351232) → ((Lit.int .i64 a0_1).wf = true) → ((Lit.int .i64 a0_2).wf = true) → ((Lit.int .i64 a0_3).wf = true) → ((Lit.int .i64 a0_4).wf = true) → ((Lit.int .i64 a0_5).wf = true) → ((Lit.int .i64 a0_6).wf = true) → ((Lit.int .i64 a1).wf = true) → ((Lit.int .i64 a2).wf = true) → ((Lit.int .i64 a3).wf = true) → ∃ k, skywaykeep1_FlyProfile.f k a0_0 a0_1 a0_2 a0_3 a0_4 a0_5 a0_6 a1 a2 a3 = some true

end Go.Proofs.Ytaahnfajcbkknaa.PFlyProfile
