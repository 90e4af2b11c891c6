/- Made by a program of this session (wip/tools/myprint.py, over the kit's printer): that the Go functions answer as the Lean functions printed beside them. -/
import Derived.Test.YtbpbpojnfhhbjaaPTubeInsidex0
import Derived.Test.YtbpbpojnfhhbjaaPTubeInsidex5
import Derived.Test.YtbpbpojnfhhbjaaPTubeInsidex7
import Derived.Test.YtbpbpojnfhhbjaaPTubeInsidex8
import Derived.Test.YtbpbpojnfhhbjaaPTubeInsidex12
namespace Go.Proofs.Ytbpbpojnfhhbjaa.PTubeInside
open Go.RowKit Go.Proofs.YtbpbpojnfhhbjaaW.PrintWords Go.Proofs.YtbpbpojnfhhbjaaW.PrintLast Go.Proofs.YtbpbpojnfhhbjaaW.PrintMore
attribute [local go_sem] max2_int min2_int max_two min_two max_three min_three max_four min_four   -- for this text's walks alone
set_option linter.unusedVariables false
set_option linter.unusedSimpArgs false

/-! ### skywaykeep1_TubeInside: function 12 -/
def skywaykeep1_TubeInside.j0 : Nat → List (S88) → List (S88) → Int → Int → Bool → Bool → Int → Int → Option (Bool)
  | 0, _, _, _, _, _, _, _, _ => none
  | k + 1, x0, x1, x2, x4, x11, x34, x211000, x211001 => if x34 = true then (some (!x11)) else ((tube_Has.f k x0 x2 x211000 x211001 x4).bind fun bt218 => ((tube_Has.f k x1 x2 x211000 x211001 x4).bind fun bt220 => (if bt218.2 = 0 then (if bt218.1 = true then (if bt220.2 = 0 then (some bt220.1) else (some false)) else (some true)) else (some true))))
def skywaykeep1_TubeInside.f (k : Nat) (l0 : List (S88)) (l1 : List (S88)) (a2 : Int) (a3_0 : Int) (a3_1 : Int) (a4 : Int) : Option (Bool) := (skywaykeep1_tubeWorks.f k).bind fun t211 => (if t211 = true then ((skywaykeep1_long.f k (([l0, l1] : List (List (S88))))).bind fun t215 => (if t215 = true then (some true) else ((tube_Inside.f k l0 l1).bind fun bt216 => (if bt216.2 = 0 then (skywaykeep1_TubeInside.j0 k l0 l1 a2 a4 bt216.1 (!bt216.1) a3_0 a3_1) else (skywaykeep1_TubeInside.j0 k l0 l1 a2 a4 bt216.1 true a3_0 a3_1))))) else (some false))
theorem skywaykeep1_TubeInside.mono_l : ∀ k, (∀ y0 y1 y2 y3 y4 y5 y6 y7, LeO (skywaykeep1_TubeInside.j0 k y0 y1 y2 y3 y4 y5 y6 y7) (skywaykeep1_TubeInside.j0 (k + 1) y0 y1 y2 y3 y4 y5 y6 y7))
  | 0 => fun _ _ _ _ _ _ _ _ r h => by simp [skywaykeep1_TubeInside.j0] at h
  | k + 1 => by
    have ih0 := skywaykeep1_TubeInside.mono_l k
    · intro y0 y1 y2 y3 y4 y5 y6 y7
      unfold skywaykeep1_TubeInside.j0
      repeat' first
      | (with_reducible exact ih0 _ _ _ _ _ _ _ _)
      | (with_reducible exact skywaykeep1_long.mono _ _)
      | (with_reducible exact skywaykeep1_tubeWorks.mono _)
      | (with_reducible exact tube_Has.mono _ _ _ _ _ _)
      | (with_reducible exact tube_Inside.mono _ _ _)
      | (with_reducible exact LeO.refl _)
      | (with_reducible exact LeO.none _)
      | (with_reducible refine LeO.ite ?_ ?_)
      | (with_reducible refine LeO.bind ?_ (fun _ => ?_))
      | exact ih0 _ _ _ _ _ _ _ _
      | exact skywaykeep1_long.mono _ _
      | exact skywaykeep1_tubeWorks.mono _
      | exact tube_Has.mono _ _ _ _ _ _
      | exact tube_Inside.mono _ _ _
      | exact LeO.none _
      | refine LeO.ite ?_ ?_
      | refine LeO.bind ?_ (fun _ => ?_)
theorem skywaykeep1_TubeInside.mono : ∀ a0 a1 a2 a3 a4 a5 k, LeO (skywaykeep1_TubeInside.f k a0 a1 a2 a3 a4 a5) (skywaykeep1_TubeInside.f (k + 1) a0 a1 a2 a3 a4 a5) := by
  intro a0 a1 a2 a3 a4 a5 k
  have ih0 := skywaykeep1_TubeInside.mono_l k
  unfold skywaykeep1_TubeInside.f
  repeat' first
      | (with_reducible exact ih0 _ _ _ _ _ _ _ _)
      | (with_reducible exact skywaykeep1_long.mono _ _)
      | (with_reducible exact skywaykeep1_tubeWorks.mono _)
      | (with_reducible exact tube_Has.mono _ _ _ _ _ _)
      | (with_reducible exact tube_Inside.mono _ _ _)
      | (with_reducible exact LeO.refl _)
      | (with_reducible exact LeO.none _)
      | (with_reducible refine LeO.ite ?_ ?_)
      | (with_reducible refine LeO.bind ?_ (fun _ => ?_))
      | exact ih0 _ _ _ _ _ _ _ _
      | exact skywaykeep1_long.mono _ _
      | exact skywaykeep1_tubeWorks.mono _
      | exact tube_Has.mono _ _ _ _ _ _
      | exact tube_Inside.mono _ _ _
      | exact LeO.none _
      | refine LeO.ite ?_ ?_
      | refine LeO.bind ?_ (fun _ => ?_)
set_option maxHeartbeats 8000000 in
set_option maxRecDepth 100000 in
theorem skywaykeep1_TubeInside.calls (k : Nat) (P0_ : Nat → Prop) (A0 : Option Addr) (c0 : Nat) (l0 : List (S88)) (P1_ : Nat → Prop) (A1 : Option Addr) (c1 : Nat) (l1 : List (S88)) (a2 : Int) (a3_0 : Int) (a3_1 : Int) (a4 : Int) (r : Bool) (w : World) (hs0 : Kd.V k88 88 w w.heap.size (fun k_ => P0_ k_) (.slice A0 l0.length c0) l0) (hs1 : Kd.V k88 88 w w.heap.size (fun k_ => P1_ k_) (.slice A1 l1.length c1) l1) (h : skywaykeep1_TubeInside.f k l0 l1 a2 a3_0 a3_1 a4 = some r) :
    Calls Try.prog 12 #[.slice A0 l0.length c0, .slice A1 l1.length c1, .int .i64 a2, .agg #[.int .i64 a3_0, .int .i64 a3_1], .int .i64 a4] w fun e w' => e = .returned (.bool r) ∧ Below w.heap.size w w' := by
 have hu36 := Try.underlying36
 have HO0 := Aside0.mk (show Kd.V k88 88 w w.heap.size (fun k_ => ((P0_ k_ ∨ P1_ k_) ∨ w.heap.size ≤ k_)) (.slice A0 l0.length c0) l0 from Kd.V_mono hs0 (fun k_ hk => .inl (.inl hk)))
 have HO1 := Aside0.mk (show Kd.V k88 88 w w.heap.size (fun k_ => ((P0_ k_ ∨ P1_ k_) ∨ w.heap.size ≤ k_)) (.slice A1 l1.length c1) l1 from Kd.V_mono hs1 (fun k_ hk => .inl (.inr hk)))
 have HB := Aside0.mk (Below.refl w.heap.size w)
 have H : ((skywaykeep1_tubeWorks.f k).bind fun t211 => (if t211 = true then ((skywaykeep1_long.f k (([l0, l1] : List (List (S88))))).bind fun t215 => (if t215 = true then (some true) else ((tube_Inside.f k l0 l1).bind fun bt216 => (if bt216.2 = 0 then (skywaykeep1_TubeInside.j0 k l0 l1 a2 a4 bt216.1 (!bt216.1) a3_0 a3_1) else (skywaykeep1_TubeInside.j0 k l0 l1 a2 a4 bt216.1 true a3_0 a3_1))))) else (some false))) = some r := h
 clear h
 replace H := Option.bind_eq_some_iff.mp H
 obtain ⟨t211, A60, H⟩ := H
 replace H : (if t211 = true then ((skywaykeep1_long.f k (([l0, l1] : List (List (S88))))).bind fun t215 => (if t215 = true then (some true) else ((tube_Inside.f k l0 l1).bind fun bt216 => (if bt216.2 = 0 then (skywaykeep1_TubeInside.j0 k l0 l1 a2 a4 bt216.1 (!bt216.1) a3_0 a3_1) else (skywaykeep1_TubeInside.j0 k l0 l1 a2 a4 bt216.1 true a3_0 a3_1))))) else (some false)) = some r := H
 have A6 := Aside0.mk A60
 clear A60
 refine Or.elim (Classical.em (t211 = true)) (fun c7 => ?p2_) (fun c7 => ?n2_)
 case' p2_ =>
  subst c7
  have H1 : ((skywaykeep1_long.f k (([l0, l1] : List (List (S88))))).bind fun t215 => (if t215 = true then (some true) else ((tube_Inside.f k l0 l1).bind fun bt216 => (if bt216.2 = 0 then (skywaykeep1_TubeInside.j0 k l0 l1 a2 a4 bt216.1 (!bt216.1) a3_0 a3_1) else (skywaykeep1_TubeInside.j0 k l0 l1 a2 a4 bt216.1 true a3_0 a3_1))))) = some r := by rw [if_pos rfl] at H; exact H
  clear H
  have H := H1
  clear H1
  obtain ⟨y212, hy212⟩ : ∃ y_ : List (List (S88)), y_ = (([l0, l1] : List (List (S88)))) := ⟨_, rfl⟩
  replace H : ((skywaykeep1_long.f k y212).bind fun t215 => (if t215 = true then (some true) else ((tube_Inside.f k l0 l1).bind fun bt216 => (if bt216.2 = 0 then (skywaykeep1_TubeInside.j0 k l0 l1 a2 a4 bt216.1 (!bt216.1) a3_0 a3_1) else (skywaykeep1_TubeInside.j0 k l0 l1 a2 a4 bt216.1 true a3_0 a3_1))))) = some r := by first | (rw [hy212]; with_reducible exact H) | (have H2_ := (Option.bind_some _ _).symm.trans H; rw [hy212]; with_reducible exact H2_) | (have H2_ := (Option.bind_some _ _).symm.trans H; with_reducible exact H2_) | with_reducible exact H | (rw [hy212]; exact H) | exact H
  have Ny212 := Aside0.mk hy212
  clear hy212
  replace H := Option.bind_eq_some_iff.mp H
  obtain ⟨t215, A80, H⟩ := H
  replace H : (if t215 = true then (some true) else ((tube_Inside.f k l0 l1).bind fun bt216 => (if bt216.2 = 0 then (skywaykeep1_TubeInside.j0 k l0 l1 a2 a4 bt216.1 (!bt216.1) a3_0 a3_1) else (skywaykeep1_TubeInside.j0 k l0 l1 a2 a4 bt216.1 true a3_0 a3_1)))) = some r := H
  have A8 := Aside0.mk A80
  clear A80
  refine Or.elim (Classical.em (t215 = true)) (fun c9 => ?p3_) (fun c9 => ?n3_)
  case' p3_ =>
   subst c9
   have H1 : (some true) = some r := by rw [if_pos rfl] at H; exact H
   clear H
   have H := H1
   clear H1
   have hm1_0 := Aside0.mk trivial
  case' n3_ =>
   replace c9 := Bool.eq_false_iff.mpr c9
   subst c9
   have H1 : ((tube_Inside.f k l0 l1).bind fun bt216 => (if bt216.2 = 0 then (skywaykeep1_TubeInside.j0 k l0 l1 a2 a4 bt216.1 (!bt216.1) a3_0 a3_1) else (skywaykeep1_TubeInside.j0 k l0 l1 a2 a4 bt216.1 true a3_0 a3_1))) = some r := by rw [if_neg (show ¬ (false = true) by decide)] at H; exact H
   clear H
   have H := H1
   clear H1
   replace H := Option.bind_eq_some_iff.mp H
   obtain ⟨⟨t216, t217⟩, A160, H⟩ := H
   replace H : (if t217 = 0 then (skywaykeep1_TubeInside.j0 k l0 l1 a2 a4 t216 (!t216) a3_0 a3_1) else (skywaykeep1_TubeInside.j0 k l0 l1 a2 a4 t216 true a3_0 a3_1)) = some r := H
   have A16 := Aside0.mk A160
   clear A160
   have HC17 := Aside0.mk H
   clear H
   have hm1_1 := Aside0.mk trivial
 case' n2_ =>
  replace c7 := Bool.eq_false_iff.mpr c7
  subst c7
  have H1 : (some false) = some r := by rw [if_neg (show ¬ (false = true) by decide)] at H; exact H
  clear H
  have H := H1
  clear H1
  have hm1_0 := Aside0.mk trivial
 all_goals
  first
   | clear hm1_0
     obtain rfl := Option.some.inj H
     go_enter Try.func12, Try.ntmps12
     go_wp2_with (first | ((with_reducible refine gate_dst (N := 8) rfl ?_); refine box_event ?hg (N := 8) ?hd (cs := #[.int .i64 a3_0, .int .i64 a3_1]) (t := 36) ?hr ?_; (case hd => rfl); (case hg => rfl); (case hr => first | (go_simp; done) | (go_simp; rfl)); intro gb210 hg wxff391 hbox hb; have n0_ := Aside0.mk (Kd.V_below (Kd.V_elderB (by (with_reducible repeat (first | apply Kd.V_alloc | apply Kd.V_drewN | apply Kd.V_drew)); exact HO0.out) gb210 (Nat.le_of_eq hg.symm)) hb); have n1_ := Aside0.mk (Kd.V_below (Kd.V_elderB (by (with_reducible repeat (first | apply Kd.V_alloc | apply Kd.V_drewN | apply Kd.V_drew)); exact HO1.out) gb210 (Nat.le_of_eq hg.symm)) hb); have n2_ := Aside0.mk (below_step (by repeat (first | (with_reducible first | exact HB.out | apply below_alloc | apply pw_below_drewN | apply below_drew1) | exact HB.out)) hb); have n3_ := Aside0.mk (hbox); have n4_ := Aside0.mk ((by rw [hg]; exact (below_size (by repeat (first | (with_reducible first | exact HB.out | apply below_alloc | apply pw_below_drewN | apply below_drew1) | exact HB.out))) : w.heap.size ≤ gb210)); have n5_ := Aside0.mk ((by rw [hg]; exact (below_size (by repeat (first | (with_reducible first | exact HB.out | apply below_alloc | apply pw_below_drewN | apply below_drew1) | exact HB.out))) : w.heap.size ≤ gb210)); clear HO0; clear HO1; clear HB; have HO0 := n0_; have HO1 := n1_; have HB := n2_; have BK210 := n3_; have GW210 := n4_; have GE210 := n5_; clear n0_ n1_ n2_ n3_ n4_ n5_; clear hb hbox hg) | ((with_reducible refine gate_callee (f := 35) rfl ?_); refine goesL_ (some 17) rfl rfl Try.func35 (by kernel_rfl) rfl #[] rfl (by (try simp only [List.map_toArray, List.map_cons, List.map_nil]); first | done | rfl | (simp only [List.length_drop, List.length_take]; rfl)) ?_; (with_reducible refine (skywaykeep1_tubeWorks.calls k  false _ A6.out).mono ?_); rintro e wxb2621 ⟨rfl, hb⟩; refine ⟨_, rfl, ?_⟩; have n0_ := Aside0.mk (Kd.V_below (by (with_reducible repeat (first | apply Kd.V_alloc | apply Kd.V_drewN | apply Kd.V_drew)); exact HO0.out) hb); have n1_ := Aside0.mk (Kd.V_below (by (with_reducible repeat (first | apply Kd.V_alloc | apply Kd.V_drewN | apply Kd.V_drew)); exact HO1.out) hb); have n2_ := Aside0.mk (blk_below (g := gb210) (o := .cells #[.int .i64 a3_0, .int .i64 a3_1] 36 (0, 0)) (by (with_reducible repeat (first | refine blk_drewN ?_ _ | refine blk_drew ?_ | refine blk_alloc ?_ _)); exact BK210.out) hb); have n3_ := Aside0.mk (below_step (by repeat (first | (with_reducible first | exact HB.out | apply below_alloc | apply pw_below_drewN | apply below_drew1 | refine below_set ?_ GE210.out) | exact HB.out)) hb); clear HO0; clear HO1; clear BK210; clear HB; have HO0 := n0_; have HO1 := n1_; have BK210 := n2_; have HB := n3_; clear n0_ n1_ n2_ n3_; (try clear hb); (try clear hb2); (try clear hk); (try clear hi)) | ((with_reducible refine gate_callee (f := 35) rfl ?_); refine goesL_ (some 17) rfl rfl Try.func35 (by kernel_rfl) rfl #[] rfl (by (try simp only [List.map_toArray, List.map_cons, List.map_nil]); first | done | rfl | (simp only [List.length_drop, List.length_take]; rfl)) ?_; (with_reducible refine (skywaykeep1_tubeWorks.calls k  true _ A6.out).mono ?_); rintro e wx27601 ⟨rfl, hb⟩; refine ⟨_, rfl, ?_⟩; have n0_ := Aside0.mk (Kd.V_below (by (with_reducible repeat (first | apply Kd.V_alloc | apply Kd.V_drewN | apply Kd.V_drew)); exact HO0.out) hb); have n1_ := Aside0.mk (Kd.V_below (by (with_reducible repeat (first | apply Kd.V_alloc | apply Kd.V_drewN | apply Kd.V_drew)); exact HO1.out) hb); have n2_ := Aside0.mk (blk_below (g := gb210) (o := .cells #[.int .i64 a3_0, .int .i64 a3_1] 36 (0, 0)) (by (with_reducible repeat (first | refine blk_drewN ?_ _ | refine blk_drew ?_ | refine blk_alloc ?_ _)); exact BK210.out) hb); have n3_ := Aside0.mk (below_step (by repeat (first | (with_reducible first | exact HB.out | apply below_alloc | apply pw_below_drewN | apply below_drew1 | refine below_set ?_ GE210.out) | exact HB.out)) hb); clear HO0; clear HO1; clear BK210; clear HB; have HO0 := n0_; have HO1 := n1_; have BK210 := n2_; have HB := n3_; clear n0_ n1_ n2_ n3_; (try clear hb); (try clear hb2); (try clear hk); (try clear hi)) | ((with_reducible refine gate_dst (N := 21) rfl ?_); refine Kd.N_lit (Kd.slice 88 k88) _ 82 ?hg (N' := 21) ?hd (xs := ([l0, l1] : List (List (S88)))) (inner := [.slice A0 l0.length c0, .slice A1 l1.length c1]) (ok := (fun k_ => ((P0_ k_ ∨ P1_ k_) ∨ w.heap.size ≤ k_) ∧ k_ ≠ gb210)) (okp := (fun k_ => ((P0_ k_ ∨ P1_ k_) ∨ w.heap.size ≤ k_) ∧ k_ ≠ gb210)) ?hr ?hp (fun _ hk => hk) ((show ∀ k_, wx27601.heap.size ≤ k_ → (fun k_ => ((P0_ k_ ∨ P1_ k_) ∨ w.heap.size ≤ k_) ∧ k_ ≠ gb210) k_ from fun k_ hk => ⟨(.inr (Nat.le_trans (below_size (by repeat (first | (with_reducible first | exact HB.out | apply below_alloc | apply pw_below_drewN | apply below_drew1 | refine below_set ?_ GE210.out) | exact HB.out))) hk)), Kd.freshB (g := gb210) (o := .cells #[.int .i64 a3_0, .int .i64 a3_1] 36 (0, 0)) (by (with_reducible repeat (first | refine blk_drewN ?_ _ | refine blk_drew ?_ | refine blk_alloc ?_ _)); exact BK210.out) k_ hk⟩) _ (Nat.le_refl _)) (Below.refl _ _) (Nat.le_refl _) (by simp) ?_; (case hd => rfl); (case hg => rfl); (case hr => first | (go_simp; done) | (go_simp; rfl)); (case hp => exact (Reps.one (show Kd.FK (Kd.slice 88 k88) _ _ l0 [.slice A0 l0.length c0] from (Kd.FK_slice_mk (Kd.V_reads' (Kd.V_mono (ok' := (fun k_ => ((P0_ k_ ∨ P1_ k_) ∨ w.heap.size ≤ k_) ∧ k_ ≠ gb210)) (HO0.out) (fun k_ hk => ⟨hk.1, hk.2⟩))).2.1 (Kd.V_F (Kd.V_mono (ok' := (fun k_ => ((P0_ k_ ∨ P1_ k_) ∨ w.heap.size ≤ k_) ∧ k_ ≠ gb210)) (HO0.out) (fun k_ hk => ⟨hk.1, hk.2⟩))))) (Reps.one (show Kd.FK (Kd.slice 88 k88) _ _ l1 [.slice A1 l1.length c1] from (Kd.FK_slice_mk (Kd.V_reads' (Kd.V_mono (ok' := (fun k_ => ((P0_ k_ ∨ P1_ k_) ∨ w.heap.size ≤ k_) ∧ k_ ≠ gb210)) (HO1.out) (fun k_ hk => ⟨hk.1, hk.2⟩))).2.1 (Kd.V_F (Kd.V_mono (ok' := (fun k_ => ((P0_ k_ ∨ P1_ k_) ∨ w.heap.size ≤ k_) ∧ k_ ≠ gb210)) (HO1.out) (fun k_ hk => ⟨hk.1, hk.2⟩))))) (Reps.none _ _)))); intro v213 wx113d1 hox113d1 hb hg_ hnew_; clear hg_ hnew_; (first | rw [← Ny212.out] at hox113d1 | (simp only [Int.reduceToNat] at hox113d1; rw [← Ny212.out] at hox113d1)); have n0_ := Aside0.mk (Kd.V_elder' (by (with_reducible repeat (first | apply Kd.V_alloc | apply Kd.V_drewN | apply Kd.V_drew)); exact HO0.out) (Kd.N_base hox113d1) hb); have n1_ := Aside0.mk (Kd.V_elder' (by (with_reducible repeat (first | apply Kd.V_alloc | apply Kd.V_drewN | apply Kd.V_drew)); exact HO1.out) (Kd.N_base hox113d1) hb); have n2_ := Aside0.mk (Kd.N_lower hox113d1 (below_size (by repeat (first | (with_reducible first | exact HB.out | apply below_alloc | apply pw_below_drewN | apply below_drew1 | refine below_set ?_ GE210.out) | exact HB.out)))); have n3_ := Aside0.mk (blk_below (g := gb210) (o := .cells #[.int .i64 a3_0, .int .i64 a3_1] 36 (0, 0)) (by (with_reducible repeat (first | refine blk_drewN ?_ _ | refine blk_drew ?_ | refine blk_alloc ?_ _)); exact BK210.out) hb); have n4_ := Aside0.mk (below_step (by repeat (first | (with_reducible first | exact HB.out | apply below_alloc | apply pw_below_drewN | apply below_drew1 | refine below_set ?_ GE210.out) | exact HB.out)) hb); clear HO0; clear HO1; clear BK210; clear HB; have HO0 := n0_; have HO1 := n1_; have HO214 := n2_; have BK210 := n3_; have HB := n4_; clear n0_ n1_ n2_ n3_ n4_; clear hb hox113d1; obtain ⟨Aox113d1, cox113d1, eox113d1⟩ := Kd.N_slice HO214.out; subst eox113d1) | ((with_reducible refine gate_callee (f := 36) rfl ?_); refine goesL_ (some 22) rfl rfl Try.func36 (by kernel_rfl) rfl #[.slice Aox113d1 y212.length cox113d1] rfl (by (try simp only [List.map_toArray, List.map_cons, List.map_nil]); first | done | rfl | (simp only [List.length_drop, List.length_take]; rfl)) ?_; (with_reducible refine (skywaykeep1_long.calls k _ _ y212 true _ ?side1 ?side2 A8.out).mono ?_); (case side1 => repeat (first | exact (Kd.N_reads' HO214.out).2.2 | (with_reducible refine Kd.C_alloc ?_ _) | (with_reducible refine Kd.C_drewN ?_ _) | (with_reducible refine Kd.C_drew ?_))); (case side2 => exact (Kd.N_reads' HO214.out).2.1); rintro e wx6b1f1 ⟨rfl, hb⟩; refine ⟨_, rfl, ?_⟩; have n0_ := Aside0.mk (Kd.V_below (by (with_reducible repeat (first | apply Kd.V_alloc | apply Kd.V_drewN | apply Kd.V_drew)); exact HO0.out) hb); have n1_ := Aside0.mk (Kd.V_below (by (with_reducible repeat (first | apply Kd.V_alloc | apply Kd.V_drewN | apply Kd.V_drew)); exact HO1.out) hb); have n2_ := Aside0.mk (Kd.N_below (by (with_reducible repeat (first | apply Kd.N_alloc | apply Kd.N_drewN | apply Kd.N_drew)); exact HO214.out) hb); have n3_ := Aside0.mk (blk_below (g := gb210) (o := .cells #[.int .i64 a3_0, .int .i64 a3_1] 36 (0, 0)) (by (with_reducible repeat (first | refine blk_drewN ?_ _ | refine blk_drew ?_ | refine blk_alloc ?_ _)); exact BK210.out) hb); have n4_ := Aside0.mk (below_step (by repeat (first | (with_reducible first | exact HB.out | apply below_alloc | apply pw_below_drewN | apply below_drew1 | refine below_set ?_ GE210.out) | exact HB.out)) hb); clear HO0; clear HO1; clear HO214; clear BK210; clear HB; have HO0 := n0_; have HO1 := n1_; have HO214 := n2_; have BK210 := n3_; have HB := n4_; clear n0_ n1_ n2_ n3_ n4_; (try clear hb); (try clear hb2); (try clear hk); (try clear hi)))
     go_ret
     exact ⟨by first | rfl | (simp [errW_none, errW_some] <;> rfl) | (simp [*, errW_none, errW_some] <;> rfl), by repeat (first | (with_reducible first | exact HB.out | apply below_alloc | apply pw_below_drewN | apply below_drew1 | refine below_set ?_ GE210.out) | exact HB.out)⟩
   | clear hm1_1
     go_enter Try.func12, Try.ntmps12
     go_upto_region 6 with (first | ((with_reducible refine gate_dst (N := 8) rfl ?_); refine box_event ?hg (N := 8) ?hd (cs := #[.int .i64 a3_0, .int .i64 a3_1]) (t := 36) ?hr ?_; (case hd => rfl); (case hg => rfl); (case hr => first | (go_simp; done) | (go_simp; rfl)); intro gb210 hg wxff391 hbox hb; have n0_ := Aside0.mk (Kd.V_below (Kd.V_elderB (by (with_reducible repeat (first | apply Kd.V_alloc | apply Kd.V_drewN | apply Kd.V_drew)); exact HO0.out) gb210 (Nat.le_of_eq hg.symm)) hb); have n1_ := Aside0.mk (Kd.V_below (Kd.V_elderB (by (with_reducible repeat (first | apply Kd.V_alloc | apply Kd.V_drewN | apply Kd.V_drew)); exact HO1.out) gb210 (Nat.le_of_eq hg.symm)) hb); have n2_ := Aside0.mk (below_step (by repeat (first | (with_reducible first | exact HB.out | apply below_alloc | apply pw_below_drewN | apply below_drew1) | exact HB.out)) hb); have n3_ := Aside0.mk (hbox); have n4_ := Aside0.mk ((by rw [hg]; exact (below_size (by repeat (first | (with_reducible first | exact HB.out | apply below_alloc | apply pw_below_drewN | apply below_drew1) | exact HB.out))) : w.heap.size ≤ gb210)); have n5_ := Aside0.mk ((by rw [hg]; exact (below_size (by repeat (first | (with_reducible first | exact HB.out | apply below_alloc | apply pw_below_drewN | apply below_drew1) | exact HB.out))) : w.heap.size ≤ gb210)); clear HO0; clear HO1; clear HB; have HO0 := n0_; have HO1 := n1_; have HB := n2_; have BK210 := n3_; have GW210 := n4_; have GE210 := n5_; clear n0_ n1_ n2_ n3_ n4_ n5_; clear hb hbox hg) | ((with_reducible refine gate_callee (f := 35) rfl ?_); refine goesL_ (some 17) rfl rfl Try.func35 (by kernel_rfl) rfl #[] rfl (by (try simp only [List.map_toArray, List.map_cons, List.map_nil]); first | done | rfl | (simp only [List.length_drop, List.length_take]; rfl)) ?_; (with_reducible refine (skywaykeep1_tubeWorks.calls k  true _ A6.out).mono ?_); rintro e wx27601 ⟨rfl, hb⟩; refine ⟨_, rfl, ?_⟩; have n0_ := Aside0.mk (Kd.V_below (by (with_reducible repeat (first | apply Kd.V_alloc | apply Kd.V_drewN | apply Kd.V_drew)); exact HO0.out) hb); have n1_ := Aside0.mk (Kd.V_below (by (with_reducible repeat (first | apply Kd.V_alloc | apply Kd.V_drewN | apply Kd.V_drew)); exact HO1.out) hb); have n2_ := Aside0.mk (blk_below (g := gb210) (o := .cells #[.int .i64 a3_0, .int .i64 a3_1] 36 (0, 0)) (by (with_reducible repeat (first | refine blk_drewN ?_ _ | refine blk_drew ?_ | refine blk_alloc ?_ _)); exact BK210.out) hb); have n3_ := Aside0.mk (below_step (by repeat (first | (with_reducible first | exact HB.out | apply below_alloc | apply pw_below_drewN | apply below_drew1 | refine below_set ?_ GE210.out) | exact HB.out)) hb); clear HO0; clear HO1; clear BK210; clear HB; have HO0 := n0_; have HO1 := n1_; have BK210 := n2_; have HB := n3_; clear n0_ n1_ n2_ n3_; (try clear hb); (try clear hb2); (try clear hk); (try clear hi)) | ((with_reducible refine gate_dst (N := 21) rfl ?_); refine Kd.N_lit (Kd.slice 88 k88) _ 82 ?hg (N' := 21) ?hd (xs := ([l0, l1] : List (List (S88)))) (inner := [.slice A0 l0.length c0, .slice A1 l1.length c1]) (ok := (fun k_ => ((P0_ k_ ∨ P1_ k_) ∨ w.heap.size ≤ k_) ∧ k_ ≠ gb210)) (okp := (fun k_ => ((P0_ k_ ∨ P1_ k_) ∨ w.heap.size ≤ k_) ∧ k_ ≠ gb210)) ?hr ?hp (fun _ hk => hk) ((show ∀ k_, wx27601.heap.size ≤ k_ → (fun k_ => ((P0_ k_ ∨ P1_ k_) ∨ w.heap.size ≤ k_) ∧ k_ ≠ gb210) k_ from fun k_ hk => ⟨(.inr (Nat.le_trans (below_size (by repeat (first | (with_reducible first | exact HB.out | apply below_alloc | apply pw_below_drewN | apply below_drew1 | refine below_set ?_ GE210.out) | exact HB.out))) hk)), Kd.freshB (g := gb210) (o := .cells #[.int .i64 a3_0, .int .i64 a3_1] 36 (0, 0)) (by (with_reducible repeat (first | refine blk_drewN ?_ _ | refine blk_drew ?_ | refine blk_alloc ?_ _)); exact BK210.out) k_ hk⟩) _ (Nat.le_refl _)) (Below.refl _ _) (Nat.le_refl _) (by simp) ?_; (case hd => rfl); (case hg => rfl); (case hr => first | (go_simp; done) | (go_simp; rfl)); (case hp => exact (Reps.one (show Kd.FK (Kd.slice 88 k88) _ _ l0 [.slice A0 l0.length c0] from (Kd.FK_slice_mk (Kd.V_reads' (Kd.V_mono (ok' := (fun k_ => ((P0_ k_ ∨ P1_ k_) ∨ w.heap.size ≤ k_) ∧ k_ ≠ gb210)) (HO0.out) (fun k_ hk => ⟨hk.1, hk.2⟩))).2.1 (Kd.V_F (Kd.V_mono (ok' := (fun k_ => ((P0_ k_ ∨ P1_ k_) ∨ w.heap.size ≤ k_) ∧ k_ ≠ gb210)) (HO0.out) (fun k_ hk => ⟨hk.1, hk.2⟩))))) (Reps.one (show Kd.FK (Kd.slice 88 k88) _ _ l1 [.slice A1 l1.length c1] from (Kd.FK_slice_mk (Kd.V_reads' (Kd.V_mono (ok' := (fun k_ => ((P0_ k_ ∨ P1_ k_) ∨ w.heap.size ≤ k_) ∧ k_ ≠ gb210)) (HO1.out) (fun k_ hk => ⟨hk.1, hk.2⟩))).2.1 (Kd.V_F (Kd.V_mono (ok' := (fun k_ => ((P0_ k_ ∨ P1_ k_) ∨ w.heap.size ≤ k_) ∧ k_ ≠ gb210)) (HO1.out) (fun k_ hk => ⟨hk.1, hk.2⟩))))) (Reps.none _ _)))); intro v213 wx113d1 hox113d1 hb hg_ hnew_; clear hg_ hnew_; (first | rw [← Ny212.out] at hox113d1 | (simp only [Int.reduceToNat] at hox113d1; rw [← Ny212.out] at hox113d1)); have n0_ := Aside0.mk (Kd.V_elder' (by (with_reducible repeat (first | apply Kd.V_alloc | apply Kd.V_drewN | apply Kd.V_drew)); exact HO0.out) (Kd.N_base hox113d1) hb); have n1_ := Aside0.mk (Kd.V_elder' (by (with_reducible repeat (first | apply Kd.V_alloc | apply Kd.V_drewN | apply Kd.V_drew)); exact HO1.out) (Kd.N_base hox113d1) hb); have n2_ := Aside0.mk (Kd.N_lower hox113d1 (below_size (by repeat (first | (with_reducible first | exact HB.out | apply below_alloc | apply pw_below_drewN | apply below_drew1 | refine below_set ?_ GE210.out) | exact HB.out)))); have n3_ := Aside0.mk (blk_below (g := gb210) (o := .cells #[.int .i64 a3_0, .int .i64 a3_1] 36 (0, 0)) (by (with_reducible repeat (first | refine blk_drewN ?_ _ | refine blk_drew ?_ | refine blk_alloc ?_ _)); exact BK210.out) hb); have n4_ := Aside0.mk (below_step (by repeat (first | (with_reducible first | exact HB.out | apply below_alloc | apply pw_below_drewN | apply below_drew1 | refine below_set ?_ GE210.out) | exact HB.out)) hb); clear HO0; clear HO1; clear BK210; clear HB; have HO0 := n0_; have HO1 := n1_; have HO214 := n2_; have BK210 := n3_; have HB := n4_; clear n0_ n1_ n2_ n3_ n4_; clear hb hox113d1; obtain ⟨Aox113d1, cox113d1, eox113d1⟩ := Kd.N_slice HO214.out; subst eox113d1) | ((with_reducible refine gate_callee (f := 36) rfl ?_); refine goesL_ (some 22) rfl rfl Try.func36 (by kernel_rfl) rfl #[.slice Aox113d1 y212.length cox113d1] rfl (by (try simp only [List.map_toArray, List.map_cons, List.map_nil]); first | done | rfl | (simp only [List.length_drop, List.length_take]; rfl)) ?_; (with_reducible refine (skywaykeep1_long.calls k _ _ y212 false _ ?side1 ?side2 A8.out).mono ?_); (case side1 => repeat (first | exact (Kd.N_reads' HO214.out).2.2 | (with_reducible refine Kd.C_alloc ?_ _) | (with_reducible refine Kd.C_drewN ?_ _) | (with_reducible refine Kd.C_drew ?_))); (case side2 => exact (Kd.N_reads' HO214.out).2.1); rintro e wx90901 ⟨rfl, hb⟩; refine ⟨_, rfl, ?_⟩; have n0_ := Aside0.mk (Kd.V_below (by (with_reducible repeat (first | apply Kd.V_alloc | apply Kd.V_drewN | apply Kd.V_drew)); exact HO0.out) hb); have n1_ := Aside0.mk (Kd.V_below (by (with_reducible repeat (first | apply Kd.V_alloc | apply Kd.V_drewN | apply Kd.V_drew)); exact HO1.out) hb); have n2_ := Aside0.mk (Kd.N_below (by (with_reducible repeat (first | apply Kd.N_alloc | apply Kd.N_drewN | apply Kd.N_drew)); exact HO214.out) hb); have n3_ := Aside0.mk (blk_below (g := gb210) (o := .cells #[.int .i64 a3_0, .int .i64 a3_1] 36 (0, 0)) (by (with_reducible repeat (first | refine blk_drewN ?_ _ | refine blk_drew ?_ | refine blk_alloc ?_ _)); exact BK210.out) hb); have n4_ := Aside0.mk (below_step (by repeat (first | (with_reducible first | exact HB.out | apply below_alloc | apply pw_below_drewN | apply below_drew1 | refine below_set ?_ GE210.out) | exact HB.out)) hb); clear HO0; clear HO1; clear HO214; clear BK210; clear HB; have HO0 := n0_; have HO1 := n1_; have HO214 := n2_; have BK210 := n3_; have HB := n4_; clear n0_ n1_ n2_ n3_ n4_; (try clear hb); (try clear hb2); (try clear hk); (try clear hi)) | ((with_reducible refine gate_callee (f := 40) rfl ?_); refine goesL_ (some 26) rfl rfl Try.func40 (by kernel_rfl) rfl #[.slice A0 l0.length c0, .slice A1 l1.length c1] rfl (by (try simp only [List.map_toArray, List.map_cons, List.map_nil]); first | done | rfl | (simp only [List.length_drop, List.length_take]; rfl)) ?_; (with_reducible refine (tube_Inside.calls k _ _ l0 _ _ l1 t216 t217 _ ?side1 ?side2 ?side3 ?side4 A16.out).mono ?_); (case side1 => repeat (first | exact (Kd.V_reads' HO0.out).2.2 | (with_reducible refine Kd.C_alloc ?_ _) | (with_reducible refine Kd.C_drewN ?_ _) | (with_reducible refine Kd.C_drew ?_))); (case side2 => exact (Kd.V_reads' HO0.out).2.1); (case side3 => repeat (first | exact (Kd.V_reads' HO1.out).2.2 | (with_reducible refine Kd.C_alloc ?_ _) | (with_reducible refine Kd.C_drewN ?_ _) | (with_reducible refine Kd.C_drew ?_))); (case side4 => exact (Kd.V_reads' HO1.out).2.1); rintro e wx2edb1 ⟨rfl, hb⟩; refine ⟨_, rfl, ?_⟩; have n0_ := Aside0.mk (Kd.V_below (by (with_reducible repeat (first | apply Kd.V_alloc | apply Kd.V_drewN | apply Kd.V_drew)); exact HO0.out) hb); have n1_ := Aside0.mk (Kd.V_below (by (with_reducible repeat (first | apply Kd.V_alloc | apply Kd.V_drewN | apply Kd.V_drew)); exact HO1.out) hb); have n2_ := Aside0.mk (Kd.N_below (by (with_reducible repeat (first | apply Kd.N_alloc | apply Kd.N_drewN | apply Kd.N_drew)); exact HO214.out) hb); have n3_ := Aside0.mk (blk_below (g := gb210) (o := .cells #[.int .i64 a3_0, .int .i64 a3_1] 36 (0, 0)) (by (with_reducible repeat (first | refine blk_drewN ?_ _ | refine blk_drew ?_ | refine blk_alloc ?_ _)); exact BK210.out) hb); have n4_ := Aside0.mk (below_step (by repeat (first | (with_reducible first | exact HB.out | apply below_alloc | apply pw_below_drewN | apply below_drew1 | refine below_set ?_ GE210.out) | exact HB.out)) hb); clear HO0; clear HO1; clear HO214; clear BK210; clear HB; have HO0 := n0_; have HO1 := n1_; have HO214 := n2_; have BK210 := n3_; have HB := n4_; clear n0_ n1_ n2_ n3_ n4_; (try clear hb); (try clear hb2); (try clear hk); (try clear hi)))
     (try simp only [Act.put, List.setIfInBounds_toArray, List.set_cons_zero, List.set_cons_succ])
     go_cut [34] (fun v34 wc => ∃ (kq : Nat) (x34_16 : Bool), v34 = .bool x34_16 ∧ Aside0 (skywaykeep1_TubeInside.j0 kq l0 l1 a2 a4 t216 x34_16 a3_0 a3_1 = some r) ∧ Aside0 (kq ≤ k) ∧ Aside0 (Kd.V k88 88 wc w.heap.size (fun k_ => ((P0_ k_ ∨ P1_ k_) ∨ w.heap.size ≤ k_) ∧ k_ ≠ gb210) (.slice A0 l0.length c0) l0) ∧ Aside0 (Kd.V k88 88 wc w.heap.size (fun k_ => ((P0_ k_ ∨ P1_ k_) ∨ w.heap.size ≤ k_) ∧ k_ ≠ gb210) (.slice A1 l1.length c1) l1) ∧ Aside0 (wc.heap[gb210]? = some (.cells #[.int .i64 a3_0, .int .i64 a3_1] 36 (0, 0))) ∧ Aside0 (Below w.heap.size w wc))
     case first =>
      have H := HC17.out
      clear HC17
      refine Or.elim (Classical.em (t217 = 0)) (fun c25 => ?p5_) (fun c25 => ?n5_)
      case' p5_ =>
       rw [if_pos c25] at H
       have c25b0 : (t217 == 0) = true := beq_iff_eq.mpr c25
       have c25b1 : (t217 != 0) = false := bne_eq_false_iff_eq.mpr c25
       clear c25
       (first | rw [c25b0] | (simp only [i64_w, i32_w]; rw [c25b0]) | skip)
      case' n5_ =>
       rw [if_neg c25] at H
       have c25b0 : (t217 == 0) = false := beq_eq_false_iff_ne.mpr c25
       have c25b1 : (t217 != 0) = true := bne_iff_ne.mpr c25
       (first | rw [c25b0] | (simp only [i64_w, i32_w]; rw [c25b0]) | skip)
      all_goals
       have H' := Aside0.mk H
       clear H
       go_wp2
       go_meet
       case rel => first | (exact ⟨_, (!t216), (by first | rfl | (simp; done) | (simp [*]; done)), H', ⟨by first | omega | exact Nat.le_refl _⟩, ⟨by (with_reducible repeat (first | apply Kd.V_alloc | apply Kd.V_drewN | apply Kd.V_drew)); exact Kd.V_mono HO0.out (fun _ hk => ⟨hk.1.1, hk.1.2⟩)⟩, ⟨by (with_reducible repeat (first | apply Kd.V_alloc | apply Kd.V_drewN | apply Kd.V_drew)); exact Kd.V_mono HO1.out (fun _ hk => ⟨hk.1.1, hk.1.2⟩)⟩, ⟨by (with_reducible repeat (first | refine blk_drewN ?_ _ | refine blk_drew ?_ | refine blk_alloc ?_ _)); exact BK210.out⟩, ⟨by repeat (first | (with_reducible first | exact HB.out | apply below_alloc | apply pw_below_drewN | apply below_drew1 | refine below_set ?_ GE210.out) | exact HB.out)⟩⟩) | (exact ⟨_, (true), (by first | rfl | (simp; done) | (simp [*]; done)), H', ⟨by first | omega | exact Nat.le_refl _⟩, ⟨by (with_reducible repeat (first | apply Kd.V_alloc | apply Kd.V_drewN | apply Kd.V_drew)); exact Kd.V_mono HO0.out (fun _ hk => ⟨hk.1.1, hk.1.2⟩)⟩, ⟨by (with_reducible repeat (first | apply Kd.V_alloc | apply Kd.V_drewN | apply Kd.V_drew)); exact Kd.V_mono HO1.out (fun _ hk => ⟨hk.1.1, hk.1.2⟩)⟩, ⟨by (with_reducible repeat (first | refine blk_drewN ?_ _ | refine blk_drew ?_ | refine blk_alloc ?_ _)); exact BK210.out⟩, ⟨by repeat (first | (with_reducible first | exact HB.out | apply below_alloc | apply pw_below_drewN | apply below_drew1 | refine below_set ?_ GE210.out) | exact HB.out)⟩⟩)
     case rest =>
      clear HC17
      (try clear c1); (try clear p1); (try clear c2); (try clear p2); (try clear c3); (try clear c4); (try clear c7); (try clear c9); (try clear c12); (try clear c25); (try clear c25b0); (try clear c25b1)
      obtain ⟨kq, x34_16, rfl, HA, HJ16, HO_0, HO_1, BK210, HB⟩ := hcut
      cases kq with
      | zero => exact absurd HA.out (by simp [skywaykeep1_TubeInside.j0])
      | succ kj16 =>
       have H := HA.out
       clear HA
       simp only [skywaykeep1_TubeInside.j0] at H
       refine Or.elim (Classical.em (x34_16 = true)) (fun c26 => ?p7_) (fun c26 => ?n7_)
       case' p7_ =>
        subst c26
        have H1 : (some (!t216)) = some r := by rw [if_pos rfl] at H; exact H
        clear H
        have H := H1
        clear H1
        have hm6_0 := Aside0.mk trivial
       case' n7_ =>
        replace c26 := Bool.eq_false_iff.mpr c26
        subst c26
        have H1 : ((tube_Has.f kj16 l0 a2 a3_0 a3_1 a4).bind fun bt218 => ((tube_Has.f kj16 l1 a2 a3_0 a3_1 a4).bind fun bt220 => (if bt218.2 = 0 then (if bt218.1 = true then (if bt220.2 = 0 then (some bt220.1) else (some false)) else (some true)) else (some true)))) = some r := by rw [if_neg (show ¬ (false = true) by decide)] at H; exact H
        clear H
        have H := H1
        clear H1
        replace H := Option.bind_eq_some_iff.mp H
        obtain ⟨⟨t218, t219⟩, A270, H⟩ := H
        replace H : ((tube_Has.f kj16 l1 a2 a3_0 a3_1 a4).bind fun bt220 => (if t219 = 0 then (if t218 = true then (if bt220.2 = 0 then (some bt220.1) else (some false)) else (some true)) else (some true))) = some r := H
        have A27 := Aside0.mk A270
        clear A270
        replace H := Option.bind_eq_some_iff.mp H
        obtain ⟨⟨t220, t221⟩, A280, H⟩ := H
        replace H : (if t219 = 0 then (if t218 = true then (if t221 = 0 then (some t220) else (some false)) else (some true)) else (some true)) = some r := H
        have A28 := Aside0.mk A280
        clear A280
        refine Or.elim (Classical.em (t219 = 0)) (fun c29 => ?p8_) (fun c29 => ?n8_)
        case' p8_ =>
         rw [if_pos c29] at H
         have c29b0 : (t219 == 0) = true := beq_iff_eq.mpr c29
         have c29b1 : (t219 != 0) = false := bne_eq_false_iff_eq.mpr c29
         clear c29
         refine Or.elim (Classical.em (t218 = true)) (fun c30 => ?p9_) (fun c30 => ?n9_)
         case' p9_ =>
          subst c30
          have H1 : (if t221 = 0 then (some t220) else (some false)) = some r := by rw [if_pos rfl] at H; exact H
          clear H
          have H := H1
          clear H1
          refine Or.elim (Classical.em (t221 = 0)) (fun c31 => ?p10_) (fun c31 => ?n10_)
          case' p10_ =>
           rw [if_pos c31] at H
           have c31b0 : (t221 == 0) = true := beq_iff_eq.mpr c31
           have c31b1 : (t221 != 0) = false := bne_eq_false_iff_eq.mpr c31
           clear c31
           have hm6_1 := Aside0.mk trivial
          case' n10_ =>
           rw [if_neg c31] at H
           have c31b0 : (t221 == 0) = false := beq_eq_false_iff_ne.mpr c31
           have c31b1 : (t221 != 0) = true := bne_iff_ne.mpr c31
           have hm6_1 := Aside0.mk trivial
         case' n9_ =>
          replace c30 := Bool.eq_false_iff.mpr c30
          subst c30
          have H1 : (some true) = some r := by rw [if_neg (show ¬ (false = true) by decide)] at H; exact H
          clear H
          have H := H1
          clear H1
          have hm6_1 := Aside0.mk trivial
        case' n8_ =>
         rw [if_neg c29] at H
         have c29b0 : (t219 == 0) = false := beq_eq_false_iff_ne.mpr c29
         have c29b1 : (t219 != 0) = true := bne_iff_ne.mpr c29
         have hm6_1 := Aside0.mk trivial
       all_goals
        obtain rfl := Option.some.inj H
        first
         | clear hm6_0
           go_wp2
           go_ret
           exact ⟨by first | rfl | (simp [errW_none, errW_some] <;> rfl) | (simp [*, errW_none, errW_some] <;> rfl), by repeat (first | (with_reducible first | exact HB.out | apply below_alloc | apply pw_below_drewN | apply below_drew1 | refine below_set ?_ GE210.out) | exact HB.out)⟩
         | clear hm6_1
           have hczzc1 : wc.cell? ⟨gb210, 0, none⟩ = some (.int .i64 a3_0) := (blk_cell BK210.out 0).trans rfl
           have hczzc2 : wc.cell? ⟨gb210, 1, none⟩ = some (.int .i64 a3_1) := (blk_cell BK210.out 1).trans rfl
           have hfzzc1 := blk_frozen BK210.out 0
           have hfzzc2 := blk_frozen BK210.out 1
           go_wp2_with (first | ((with_reducible refine gate_callee (f := 41) rfl ?_); refine goesL_ (some 42) rfl rfl Try.func41 (by kernel_rfl) rfl #[.slice A0 l0.length c0, .int .i64 a2, .agg #[.int .i64 a3_0, .int .i64 a3_1], .int .i64 a4] rfl (by (try simp only [List.map_toArray, List.map_cons, List.map_nil]); first | done | rfl | (simp only [List.length_drop, List.length_take]; rfl)) ?_; (with_reducible refine (tube_Has.calls kj16 _ _ l0 a2 a3_0 a3_1 a4 false t219 _ ?side1 ?side2 A27.out).mono ?_); (case side1 => repeat (first | exact (Kd.V_reads' HO_0.out).2.2 | (with_reducible refine Kd.C_alloc ?_ _) | (with_reducible refine Kd.C_drewN ?_ _) | (with_reducible refine Kd.C_drew ?_))); (case side2 => exact (Kd.V_reads' HO_0.out).2.1); rintro e wx71471 ⟨rfl, hb⟩; refine ⟨_, rfl, ?_⟩; have n0_ := Aside0.mk (Kd.V_below (by (with_reducible repeat (first | apply Kd.V_alloc | apply Kd.V_drewN | apply Kd.V_drew)); exact HO_0.out) hb); have n1_ := Aside0.mk (Kd.V_below (by (with_reducible repeat (first | apply Kd.V_alloc | apply Kd.V_drewN | apply Kd.V_drew)); exact HO_1.out) hb); have n2_ := Aside0.mk (blk_below (g := gb210) (o := .cells #[.int .i64 a3_0, .int .i64 a3_1] 36 (0, 0)) (by (with_reducible repeat (first | refine blk_drewN ?_ _ | refine blk_drew ?_ | refine blk_alloc ?_ _)); exact BK210.out) hb); have n3_ := Aside0.mk (below_step (by repeat (first | (with_reducible first | exact HB.out | apply below_alloc | apply pw_below_drewN | apply below_drew1 | refine below_set ?_ GE210.out) | exact HB.out)) hb); clear HO_0; clear HO_1; clear BK210; clear HB; have HO_0 := n0_; have HO_1 := n1_; have BK210 := n2_; have HB := n3_; clear n0_ n1_ n2_ n3_; (try clear hb); (try clear hb2); (try clear hk); (try clear hi); have hczx71471 : wx71471.cell? ⟨gb210, 0, none⟩ = some (.int .i64 a3_0) := (blk_cell BK210.out 0).trans rfl; have hczx71472 : wx71471.cell? ⟨gb210, 1, none⟩ = some (.int .i64 a3_1) := (blk_cell BK210.out 1).trans rfl; have hfzx71471 := blk_frozen BK210.out 0; have hfzx71472 := blk_frozen BK210.out 1) | ((with_reducible refine gate_callee (f := 41) rfl ?_); refine goesL_ (some 42) rfl rfl Try.func41 (by kernel_rfl) rfl #[.slice A0 l0.length c0, .int .i64 a2, .agg #[.int .i64 a3_0, .int .i64 a3_1], .int .i64 a4] rfl (by (try simp only [List.map_toArray, List.map_cons, List.map_nil]); first | done | rfl | (simp only [List.length_drop, List.length_take]; rfl)) ?_; (with_reducible refine (tube_Has.calls kj16 _ _ l0 a2 a3_0 a3_1 a4 true t219 _ ?side1 ?side2 A27.out).mono ?_); (case side1 => repeat (first | exact (Kd.V_reads' HO_0.out).2.2 | (with_reducible refine Kd.C_alloc ?_ _) | (with_reducible refine Kd.C_drewN ?_ _) | (with_reducible refine Kd.C_drew ?_))); (case side2 => exact (Kd.V_reads' HO_0.out).2.1); rintro e wx70401 ⟨rfl, hb⟩; refine ⟨_, rfl, ?_⟩; have n0_ := Aside0.mk (Kd.V_below (by (with_reducible repeat (first | apply Kd.V_alloc | apply Kd.V_drewN | apply Kd.V_drew)); exact HO_0.out) hb); have n1_ := Aside0.mk (Kd.V_below (by (with_reducible repeat (first | apply Kd.V_alloc | apply Kd.V_drewN | apply Kd.V_drew)); exact HO_1.out) hb); have n2_ := Aside0.mk (blk_below (g := gb210) (o := .cells #[.int .i64 a3_0, .int .i64 a3_1] 36 (0, 0)) (by (with_reducible repeat (first | refine blk_drewN ?_ _ | refine blk_drew ?_ | refine blk_alloc ?_ _)); exact BK210.out) hb); have n3_ := Aside0.mk (below_step (by repeat (first | (with_reducible first | exact HB.out | apply below_alloc | apply pw_below_drewN | apply below_drew1 | refine below_set ?_ GE210.out) | exact HB.out)) hb); clear HO_0; clear HO_1; clear BK210; clear HB; have HO_0 := n0_; have HO_1 := n1_; have BK210 := n2_; have HB := n3_; clear n0_ n1_ n2_ n3_; (try clear hb); (try clear hb2); (try clear hk); (try clear hi); have hczx70401 : wx70401.cell? ⟨gb210, 0, none⟩ = some (.int .i64 a3_0) := (blk_cell BK210.out 0).trans rfl; have hczx70402 : wx70401.cell? ⟨gb210, 1, none⟩ = some (.int .i64 a3_1) := (blk_cell BK210.out 1).trans rfl; have hfzx70401 := blk_frozen BK210.out 0; have hfzx70402 := blk_frozen BK210.out 1) | ((with_reducible refine gate_callee (f := 41) rfl ?_); refine goesL_ (some 42) rfl rfl Try.func41 (by kernel_rfl) rfl #[.slice A0 l0.length c0, .int .i64 a2, .agg #[.int .i64 a3_0, .int .i64 a3_1], .int .i64 a4] rfl (by (try simp only [List.map_toArray, List.map_cons, List.map_nil]); first | done | rfl | (simp only [List.length_drop, List.length_take]; rfl)) ?_; (with_reducible refine (tube_Has.calls kj16 _ _ l0 a2 a3_0 a3_1 a4 t218 t219 _ ?side1 ?side2 A27.out).mono ?_); (case side1 => repeat (first | exact (Kd.V_reads' HO_0.out).2.2 | (with_reducible refine Kd.C_alloc ?_ _) | (with_reducible refine Kd.C_drewN ?_ _) | (with_reducible refine Kd.C_drew ?_))); (case side2 => exact (Kd.V_reads' HO_0.out).2.1); rintro e wxe5f01 ⟨rfl, hb⟩; refine ⟨_, rfl, ?_⟩; have n0_ := Aside0.mk (Kd.V_below (by (with_reducible repeat (first | apply Kd.V_alloc | apply Kd.V_drewN | apply Kd.V_drew)); exact HO_0.out) hb); have n1_ := Aside0.mk (Kd.V_below (by (with_reducible repeat (first | apply Kd.V_alloc | apply Kd.V_drewN | apply Kd.V_drew)); exact HO_1.out) hb); have n2_ := Aside0.mk (blk_below (g := gb210) (o := .cells #[.int .i64 a3_0, .int .i64 a3_1] 36 (0, 0)) (by (with_reducible repeat (first | refine blk_drewN ?_ _ | refine blk_drew ?_ | refine blk_alloc ?_ _)); exact BK210.out) hb); have n3_ := Aside0.mk (below_step (by repeat (first | (with_reducible first | exact HB.out | apply below_alloc | apply pw_below_drewN | apply below_drew1 | refine below_set ?_ GE210.out) | exact HB.out)) hb); clear HO_0; clear HO_1; clear BK210; clear HB; have HO_0 := n0_; have HO_1 := n1_; have BK210 := n2_; have HB := n3_; clear n0_ n1_ n2_ n3_; (try clear hb); (try clear hb2); (try clear hk); (try clear hi); have hczxe5f01 : wxe5f01.cell? ⟨gb210, 0, none⟩ = some (.int .i64 a3_0) := (blk_cell BK210.out 0).trans rfl; have hczxe5f02 : wxe5f01.cell? ⟨gb210, 1, none⟩ = some (.int .i64 a3_1) := (blk_cell BK210.out 1).trans rfl; have hfzxe5f01 := blk_frozen BK210.out 0; have hfzxe5f02 := blk_frozen BK210.out 1) | ((with_reducible refine gate_callee (f := 41) rfl ?_); refine goesL_ (some 50) rfl rfl Try.func41 (by kernel_rfl) rfl #[.slice A1 l1.length c1, .int .i64 a2, .agg #[.int .i64 a3_0, .int .i64 a3_1], .int .i64 a4] rfl (by (try simp only [List.map_toArray, List.map_cons, List.map_nil]); first | done | rfl | (simp only [List.length_drop, List.length_take]; rfl)) ?_; (with_reducible refine (tube_Has.calls kj16 _ _ l1 a2 a3_0 a3_1 a4 t220 t221 _ ?side1 ?side2 A28.out).mono ?_); (case side1 => repeat (first | exact (Kd.V_reads' HO_1.out).2.2 | (with_reducible refine Kd.C_alloc ?_ _) | (with_reducible refine Kd.C_drewN ?_ _) | (with_reducible refine Kd.C_drew ?_))); (case side2 => exact (Kd.V_reads' HO_1.out).2.1); rintro e wxdaac1 ⟨rfl, hb⟩; refine ⟨_, rfl, ?_⟩; have n0_ := Aside0.mk (Kd.V_below (by (with_reducible repeat (first | apply Kd.V_alloc | apply Kd.V_drewN | apply Kd.V_drew)); exact HO_0.out) hb); have n1_ := Aside0.mk (Kd.V_below (by (with_reducible repeat (first | apply Kd.V_alloc | apply Kd.V_drewN | apply Kd.V_drew)); exact HO_1.out) hb); have n2_ := Aside0.mk (blk_below (g := gb210) (o := .cells #[.int .i64 a3_0, .int .i64 a3_1] 36 (0, 0)) (by (with_reducible repeat (first | refine blk_drewN ?_ _ | refine blk_drew ?_ | refine blk_alloc ?_ _)); exact BK210.out) hb); have n3_ := Aside0.mk (below_step (by repeat (first | (with_reducible first | exact HB.out | apply below_alloc | apply pw_below_drewN | apply below_drew1 | refine below_set ?_ GE210.out) | exact HB.out)) hb); clear HO_0; clear HO_1; clear BK210; clear HB; have HO_0 := n0_; have HO_1 := n1_; have BK210 := n2_; have HB := n3_; clear n0_ n1_ n2_ n3_; (try clear hb); (try clear hb2); (try clear hk); (try clear hi)))
           go_ret
           exact ⟨by first | rfl | (simp [errW_none, errW_some] <;> rfl) | (simp [*, errW_none, errW_some] <;> rfl), by repeat (first | (with_reducible first | exact HB.out | apply below_alloc | apply pw_below_drewN | apply below_drew1 | refine below_set ?_ GE210.out) | exact HB.out)⟩

/-- What is told of a value of struct type 36 that came in. -/
def good36 (x : S36) : Prop := ((Lit.int .i64 x.f0).wf = true) ∧ (Lit.int .i64 x.f1).wf = true
/-- What is told of a value of struct type 71 that came in. -/
def good71 (x : S71) : Prop := ((Lit.int .i64 x.f0).wf = true) ∧ (good36 x.f1) ∧ (Lit.int .i64 x.f2).wf = true
/-- What is told of a value of struct type 88 that came in. -/
def good88 (x : S88) : Prop := (good71 x.f0) ∧ ((Lit.int .i64 x.f1).wf = true) ∧ (Lit.int .i64 x.f2).wf = true
/-- THE ONE PURE STATEMENT of skywaykeep1_TubeInside. -/
def skywaykeep1_TubeInside.Pure : Prop := ∀ (l0 : List (S88)) (l1 : List (S88)) (a2 : Int) (a3_0 : Int) (a3_1 : Int) (a4 : Int), (l0.length * 48 ≤ 140737488351232 ∧ ∀ y0 ∈ l0, good88 y0) → (l1.length * 48 ≤ 140737488351232 ∧ ∀ y0 ∈ l1, good88 y0) → ((Lit.int .i64 a2).wf = true) → ((Lit.int .i64 a3_0).wf = true) → ((Lit.int .i64 a3_1).wf = true) → ((Lit.int .i64 a4).wf = true) → ∃ k, skywaykeep1_TubeInside.f k l0 l1 a2 a3_0 a3_1 a4 = some true

end Go.Proofs.Ytbpbpojnfhhbjaa.PTubeInside
