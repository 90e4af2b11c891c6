/- Made by a program of this session (wip/tools/myprint.py, over the kit's printer): that the Go functions answer as the Lean functions printed beside them. -/
import Derived.Test.YteaddpieonkboabPProbeMarginx0
import Derived.Test.YteaddpieonkboabPProbeMarginx1
import Derived.Test.YteaddpieonkboabPProbeMarginx5
namespace Go.Proofs.Yteaddpieonkboab.PProbeMargin
open Go.RowKit Go.Proofs.YteaddpieonkboabW.PrintWords Go.Proofs.YteaddpieonkboabW.PrintLast Go.Proofs.YteaddpieonkboabW.PrintMore
attribute [local go_sem] max2_int min2_int max_two min_two max_three min_three max_four min_four   -- for this text's walks alone
set_option linter.unusedVariables false
set_option linter.unusedSimpArgs false

/-! ### skywaykeep1_ProbeMargin: function 12 -/
def skywaykeep1_ProbeMargin.j0 : Nat → List (S30) → List (S30) → Int → Bool → Option (Bool)
  | 0, _, _, _, _ => none
  | k + 1, x0, x1, x5, x33 => if x33 = true then (some true) else ((probe_Pair.f k x0 x1 x5 60000).bind fun bt297 => ((skywaykeep1_ProbeMargin_1.f k x0).bind fun t301 => ((skywaykeep1_ProbeMargin_1.f k x1).bind fun t304 => ((probe_Pair.f k t301 t304 (wrap64 (x5 + 1)) 60000).bind fun bt307 => (if bt297.2 = 0 then (if (bt297.1.length : Int) = 0 then (if bt307.2 = 0 then (some (decide ((bt307.1.length : Int) > 0))) else (some false)) else (some false)) else (some false))))))
def skywaykeep1_ProbeMargin.f (k : Nat) (l0 : List (S30)) (l1 : List (S30)) : Option (Bool) := (skywaykeep1_probeWorks.f k).bind fun t290 => (if t290 = true then ((skywaykeep1_long.f k (([l0, l1] : List (List (S30))))).bind fun t294 => (if t294 = true then (some true) else ((probe_Margin.f k l0 l1).bind fun bt295 => (if bt295.2 = 0 then (if bt295.1 < 0 then (skywaykeep1_ProbeMargin.j0 k l0 l1 bt295.1 true) else (skywaykeep1_ProbeMargin.j0 k l0 l1 bt295.1 (decide (bt295.1 ≥ 1000000)))) else (some (bt295.1 == 0)))))) else (some false))
theorem skywaykeep1_ProbeMargin.mono_l : ∀ k, (∀ y0 y1 y2 y3, LeO (skywaykeep1_ProbeMargin.j0 k y0 y1 y2 y3) (skywaykeep1_ProbeMargin.j0 (k + 1) y0 y1 y2 y3))
  | 0 => fun _ _ _ _ r h => by simp [skywaykeep1_ProbeMargin.j0] at h
  | k + 1 => by
    have ih0 := skywaykeep1_ProbeMargin.mono_l k
    · intro y0 y1 y2 y3
      unfold skywaykeep1_ProbeMargin.j0
      repeat' first
      | (with_reducible exact ih0 _ _ _ _)
      | (with_reducible exact probe_Margin.mono _ _ _)
      | (with_reducible exact probe_Pair.mono _ _ _ _ _)
      | (with_reducible exact skywaykeep1_ProbeMargin_1.mono _ _)
      | (with_reducible exact skywaykeep1_long.mono _ _)
      | (with_reducible exact skywaykeep1_probeWorks.mono _)
      | (with_reducible exact LeO.refl _)
      | (with_reducible exact LeO.none _)
      | (with_reducible refine LeO.ite ?_ ?_)
      | (with_reducible refine LeO.bind ?_ (fun _ => ?_))
      | exact ih0 _ _ _ _
      | exact probe_Margin.mono _ _ _
      | exact probe_Pair.mono _ _ _ _ _
      | exact skywaykeep1_ProbeMargin_1.mono _ _
      | exact skywaykeep1_long.mono _ _
      | exact skywaykeep1_probeWorks.mono _
      | exact LeO.none _
      | refine LeO.ite ?_ ?_
      | refine LeO.bind ?_ (fun _ => ?_)
theorem skywaykeep1_ProbeMargin.mono : ∀ a0 a1 k, LeO (skywaykeep1_ProbeMargin.f k a0 a1) (skywaykeep1_ProbeMargin.f (k + 1) a0 a1) := by
  intro a0 a1 k
  have ih0 := skywaykeep1_ProbeMargin.mono_l k
  unfold skywaykeep1_ProbeMargin.f
  repeat' first
      | (with_reducible exact ih0 _ _ _ _)
      | (with_reducible exact probe_Margin.mono _ _ _)
      | (with_reducible exact probe_Pair.mono _ _ _ _ _)
      | (with_reducible exact skywaykeep1_ProbeMargin_1.mono _ _)
      | (with_reducible exact skywaykeep1_long.mono _ _)
      | (with_reducible exact skywaykeep1_probeWorks.mono _)
      | (with_reducible exact LeO.refl _)
      | (with_reducible exact LeO.none _)
      | (with_reducible refine LeO.ite ?_ ?_)
      | (with_reducible refine LeO.bind ?_ (fun _ => ?_))
      | exact ih0 _ _ _ _
      | exact probe_Margin.mono _ _ _
      | exact probe_Pair.mono _ _ _ _ _
      | exact skywaykeep1_ProbeMargin_1.mono _ _
      | exact skywaykeep1_long.mono _ _
      | exact skywaykeep1_probeWorks.mono _
      | exact LeO.none _
      | refine LeO.ite ?_ ?_
      | refine LeO.bind ?_ (fun _ => ?_)
set_option maxHeartbeats 8000000 in
set_option maxRecDepth 100000 in
theorem skywaykeep1_ProbeMargin.calls (k : Nat) (P0_ : Nat → Prop) (A0 : Option Addr) (c0 : Nat) (l0 : List (S30)) (P1_ : Nat → Prop) (A1 : Option Addr) (c1 : Nat) (l1 : List (S30)) (r : Bool) (w : World) (hs0 : Kd.V k30 30 w w.heap.size (fun k_ => P0_ k_) (.slice A0 l0.length c0) l0) (hs1 : Kd.V k30 30 w w.heap.size (fun k_ => P1_ k_) (.slice A1 l1.length c1) l1) (h : skywaykeep1_ProbeMargin.f k l0 l1 = some r) :
    Calls Try.prog 12 #[.slice A0 l0.length c0, .slice A1 l1.length c1] w fun e w' => e = .returned (.bool r) ∧ Below w.heap.size w w' := by
 have hu61 := Try.underlying61
 have HO0 := Aside0.mk (show Kd.V k30 30 w w.heap.size (fun k_ => ((P0_ k_ ∨ P1_ k_) ∨ w.heap.size ≤ k_)) (.slice A0 l0.length c0) l0 from Kd.V_mono hs0 (fun k_ hk => .inl (.inl hk)))
 have HO1 := Aside0.mk (show Kd.V k30 30 w w.heap.size (fun k_ => ((P0_ k_ ∨ P1_ k_) ∨ w.heap.size ≤ k_)) (.slice A1 l1.length c1) l1 from Kd.V_mono hs1 (fun k_ hk => .inl (.inr hk)))
 have HB := Aside0.mk (Below.refl w.heap.size w)
 have H : ((skywaykeep1_probeWorks.f k).bind fun t290 => (if t290 = true then ((skywaykeep1_long.f k (([l0, l1] : List (List (S30))))).bind fun t294 => (if t294 = true then (some true) else ((probe_Margin.f k l0 l1).bind fun bt295 => (if bt295.2 = 0 then (if bt295.1 < 0 then (skywaykeep1_ProbeMargin.j0 k l0 l1 bt295.1 true) else (skywaykeep1_ProbeMargin.j0 k l0 l1 bt295.1 (decide (bt295.1 ≥ 1000000)))) else (some (bt295.1 == 0)))))) else (some false))) = some r := h
 clear h
 replace H := Option.bind_eq_some_iff.mp H
 obtain ⟨t290, A30, H⟩ := H
 replace H : (if t290 = true then ((skywaykeep1_long.f k (([l0, l1] : List (List (S30))))).bind fun t294 => (if t294 = true then (some true) else ((probe_Margin.f k l0 l1).bind fun bt295 => (if bt295.2 = 0 then (if bt295.1 < 0 then (skywaykeep1_ProbeMargin.j0 k l0 l1 bt295.1 true) else (skywaykeep1_ProbeMargin.j0 k l0 l1 bt295.1 (decide (bt295.1 ≥ 1000000)))) else (some (bt295.1 == 0)))))) else (some false)) = some r := H
 have A3 := Aside0.mk A30
 clear A30
 refine Or.elim (Classical.em (t290 = true)) (fun c4 => ?p2_) (fun c4 => ?n2_)
 case' p2_ =>
  subst c4
  have H1 : ((skywaykeep1_long.f k (([l0, l1] : List (List (S30))))).bind fun t294 => (if t294 = true then (some true) else ((probe_Margin.f k l0 l1).bind fun bt295 => (if bt295.2 = 0 then (if bt295.1 < 0 then (skywaykeep1_ProbeMargin.j0 k l0 l1 bt295.1 true) else (skywaykeep1_ProbeMargin.j0 k l0 l1 bt295.1 (decide (bt295.1 ≥ 1000000)))) else (some (bt295.1 == 0)))))) = some r := by rw [if_pos rfl] at H; exact H
  clear H
  have H := H1
  clear H1
  obtain ⟨y291, hy291⟩ : ∃ y_ : List (List (S30)), y_ = (([l0, l1] : List (List (S30)))) := ⟨_, rfl⟩
  replace H : ((skywaykeep1_long.f k y291).bind fun t294 => (if t294 = true then (some true) else ((probe_Margin.f k l0 l1).bind fun bt295 => (if bt295.2 = 0 then (if bt295.1 < 0 then (skywaykeep1_ProbeMargin.j0 k l0 l1 bt295.1 true) else (skywaykeep1_ProbeMargin.j0 k l0 l1 bt295.1 (decide (bt295.1 ≥ 1000000)))) else (some (bt295.1 == 0)))))) = some r := by first | (rw [hy291]; with_reducible exact H) | (have H2_ := (Option.bind_some _ _).symm.trans H; rw [hy291]; with_reducible exact H2_) | (have H2_ := (Option.bind_some _ _).symm.trans H; with_reducible exact H2_) | with_reducible exact H | (rw [hy291]; exact H) | exact H
  have Ny291 := Aside0.mk hy291
  clear hy291
  replace H := Option.bind_eq_some_iff.mp H
  obtain ⟨t294, A50, H⟩ := H
  replace H : (if t294 = true then (some true) else ((probe_Margin.f k l0 l1).bind fun bt295 => (if bt295.2 = 0 then (if bt295.1 < 0 then (skywaykeep1_ProbeMargin.j0 k l0 l1 bt295.1 true) else (skywaykeep1_ProbeMargin.j0 k l0 l1 bt295.1 (decide (bt295.1 ≥ 1000000)))) else (some (bt295.1 == 0))))) = some r := H
  have A5 := Aside0.mk A50
  clear A50
  refine Or.elim (Classical.em (t294 = true)) (fun c6 => ?p3_) (fun c6 => ?n3_)
  case' p3_ =>
   subst c6
   have H1 : (some true) = some r := by rw [if_pos rfl] at H; exact H
   clear H
   have H := H1
   clear H1
   have hm1_0 := Aside0.mk trivial
  case' n3_ =>
   replace c6 := Bool.eq_false_iff.mpr c6
   subst c6
   have H1 : ((probe_Margin.f k l0 l1).bind fun bt295 => (if bt295.2 = 0 then (if bt295.1 < 0 then (skywaykeep1_ProbeMargin.j0 k l0 l1 bt295.1 true) else (skywaykeep1_ProbeMargin.j0 k l0 l1 bt295.1 (decide (bt295.1 ≥ 1000000)))) else (some (bt295.1 == 0)))) = some r := by rw [if_neg (show ¬ (false = true) by decide)] at H; exact H
   clear H
   have H := H1
   clear H1
   replace H := Option.bind_eq_some_iff.mp H
   obtain ⟨⟨t295, t296⟩, A120, H⟩ := H
   replace H : (if t296 = 0 then (if t295 < 0 then (skywaykeep1_ProbeMargin.j0 k l0 l1 t295 true) else (skywaykeep1_ProbeMargin.j0 k l0 l1 t295 (decide (t295 ≥ 1000000)))) else (some (t295 == 0))) = some r := H
   have A12 := Aside0.mk A120
   clear A120
   refine Or.elim (Classical.em (t296 = 0)) (fun c13 => ?p4_) (fun c13 => ?n4_)
   case' p4_ =>
    rw [if_pos c13] at H
    have c13b0 : (t296 == 0) = true := beq_iff_eq.mpr c13
    have c13b1 : (t296 != 0) = false := bne_eq_false_iff_eq.mpr c13
    clear c13
    have HC14 := Aside0.mk H
    clear H
    have hm1_1 := Aside0.mk trivial
   case' n4_ =>
    rw [if_neg c13] at H
    have c13b0 : (t296 == 0) = false := beq_eq_false_iff_ne.mpr c13
    have c13b1 : (t296 != 0) = true := bne_iff_ne.mpr c13
    have hm1_0 := Aside0.mk trivial
 case' n2_ =>
  replace c4 := Bool.eq_false_iff.mpr c4
  subst c4
  have H1 : (some false) = some r := by rw [if_neg (show ¬ (false = true) by decide)] at H; exact H
  clear H
  have H := H1
  clear H1
  have hm1_0 := Aside0.mk trivial
 all_goals
  first
   | clear hm1_0
     obtain rfl := Option.some.inj H
     go_enter Try.func12, Try.ntmps12
     go_wp2_with (first | ((with_reducible refine gate_callee (f := 30) rfl ?_); refine goesL_ (some 12) rfl rfl Try.func30 (by kernel_rfl) rfl #[] rfl (by (try simp only [List.map_toArray, List.map_cons, List.map_nil]); first | done | rfl | (simp only [List.length_drop, List.length_take]; rfl)) ?_; (with_reducible refine (skywaykeep1_probeWorks.calls k  false _ A3.out).mono ?_); rintro e wxf7241 ⟨rfl, hb⟩; refine ⟨_, rfl, ?_⟩; have n0_ := Aside0.mk (Kd.V_below (by (with_reducible repeat (first | apply Kd.V_alloc | apply Kd.V_drewN | apply Kd.V_drew)); exact HO0.out) hb); have n1_ := Aside0.mk (Kd.V_below (by (with_reducible repeat (first | apply Kd.V_alloc | apply Kd.V_drewN | apply Kd.V_drew)); exact HO1.out) hb); have n2_ := Aside0.mk (below_step (by repeat (first | (with_reducible first | exact HB.out | apply below_alloc | apply pw_below_drewN | apply below_drew1) | exact HB.out)) hb); clear HO0; clear HO1; clear HB; have HO0 := n0_; have HO1 := n1_; have HB := n2_; clear n0_ n1_ n2_; (try clear hb); (try clear hb2); (try clear hk); (try clear hi)) | ((with_reducible refine gate_callee (f := 30) rfl ?_); refine goesL_ (some 12) rfl rfl Try.func30 (by kernel_rfl) rfl #[] rfl (by (try simp only [List.map_toArray, List.map_cons, List.map_nil]); first | done | rfl | (simp only [List.length_drop, List.length_take]; rfl)) ?_; (with_reducible refine (skywaykeep1_probeWorks.calls k  true _ A3.out).mono ?_); rintro e wxa9a71 ⟨rfl, hb⟩; refine ⟨_, rfl, ?_⟩; have n0_ := Aside0.mk (Kd.V_below (by (with_reducible repeat (first | apply Kd.V_alloc | apply Kd.V_drewN | apply Kd.V_drew)); exact HO0.out) hb); have n1_ := Aside0.mk (Kd.V_below (by (with_reducible repeat (first | apply Kd.V_alloc | apply Kd.V_drewN | apply Kd.V_drew)); exact HO1.out) hb); have n2_ := Aside0.mk (below_step (by repeat (first | (with_reducible first | exact HB.out | apply below_alloc | apply pw_below_drewN | apply below_drew1) | exact HB.out)) hb); clear HO0; clear HO1; clear HB; have HO0 := n0_; have HO1 := n1_; have HB := n2_; clear n0_ n1_ n2_; (try clear hb); (try clear hb2); (try clear hk); (try clear hi)) | ((with_reducible refine gate_dst (N := 16) rfl ?_); (try (refine gate_guard (by rfl) ?_; dsimp only)); refine Kd.N_lit (Kd.slice 30 k30) _ 23 ?hg (N' := 16) ?hd (xs := ([l0, l1] : List (List (S30)))) (inner := [.slice A0 l0.length c0, .slice A1 l1.length c1]) (ok := (fun k_ => ((P0_ k_ ∨ P1_ k_) ∨ w.heap.size ≤ k_))) (okp := (fun k_ => ((P0_ k_ ∨ P1_ k_) ∨ w.heap.size ≤ k_))) ?hr ?hp (fun _ hk => hk) ((show ∀ k_, wxa9a71.heap.size ≤ k_ → (fun k_ => ((P0_ k_ ∨ P1_ k_) ∨ w.heap.size ≤ k_)) k_ from fun k_ hk => (.inr (Nat.le_trans (below_size (by repeat (first | (with_reducible first | exact HB.out | apply below_alloc | apply pw_below_drewN | apply below_drew1) | exact HB.out))) hk))) _ (Nat.le_refl _)) (Below.refl _ _) (Nat.le_refl _) (by simp) ?_; (case hd => rfl); (case hg => rfl); (case hr => first | (go_simp; done) | (go_simp; rfl)); (case hp => exact (Reps.one (show Kd.FK (Kd.slice 30 k30) _ _ l0 [.slice A0 l0.length c0] from (Kd.FK_slice_mk (Kd.V_reads' (Kd.V_mono (ok' := (fun k_ => ((P0_ k_ ∨ P1_ k_) ∨ w.heap.size ≤ k_))) (HO0.out) (fun k_ hk => hk))).2.1 (Kd.V_F (Kd.V_mono (ok' := (fun k_ => ((P0_ k_ ∨ P1_ k_) ∨ w.heap.size ≤ k_))) (HO0.out) (fun k_ hk => hk))))) (Reps.one (show Kd.FK (Kd.slice 30 k30) _ _ l1 [.slice A1 l1.length c1] from (Kd.FK_slice_mk (Kd.V_reads' (Kd.V_mono (ok' := (fun k_ => ((P0_ k_ ∨ P1_ k_) ∨ w.heap.size ≤ k_))) (HO1.out) (fun k_ hk => hk))).2.1 (Kd.V_F (Kd.V_mono (ok' := (fun k_ => ((P0_ k_ ∨ P1_ k_) ∨ w.heap.size ≤ k_))) (HO1.out) (fun k_ hk => hk))))) (Reps.none _ _)))); intro v292 wxf3591 hoxf3591 hb hg_ hnew_; clear hg_ hnew_; (first | rw [← Ny291.out] at hoxf3591 | (simp only [Int.reduceToNat] at hoxf3591; rw [← Ny291.out] at hoxf3591)); have n0_ := Aside0.mk (Kd.V_elder' (by (with_reducible repeat (first | apply Kd.V_alloc | apply Kd.V_drewN | apply Kd.V_drew)); exact HO0.out) (Kd.N_base hoxf3591) hb); have n1_ := Aside0.mk (Kd.V_elder' (by (with_reducible repeat (first | apply Kd.V_alloc | apply Kd.V_drewN | apply Kd.V_drew)); exact HO1.out) (Kd.N_base hoxf3591) hb); have n2_ := Aside0.mk (Kd.N_lower hoxf3591 (below_size (by repeat (first | (with_reducible first | exact HB.out | apply below_alloc | apply pw_below_drewN | apply below_drew1) | exact HB.out)))); have n3_ := Aside0.mk (below_step (by repeat (first | (with_reducible first | exact HB.out | apply below_alloc | apply pw_below_drewN | apply below_drew1) | exact HB.out)) hb); clear HO0; clear HO1; clear HB; have HO0 := n0_; have HO1 := n1_; have HO293 := n2_; have HB := n3_; clear n0_ n1_ n2_ n3_; clear hb hoxf3591; obtain ⟨Aoxf3591, coxf3591, eoxf3591⟩ := Kd.N_slice HO293.out; subst eoxf3591) | ((with_reducible refine gate_callee (f := 18) rfl ?_); refine goesL_ (some 17) rfl rfl Try.func18 (by kernel_rfl) rfl #[.slice Aoxf3591 y291.length coxf3591] rfl (by (try simp only [List.map_toArray, List.map_cons, List.map_nil]); first | done | rfl | (simp only [List.length_drop, List.length_take]; rfl)) ?_; (with_reducible refine (skywaykeep1_long.calls k _ _ y291 false _ ?side1 ?side2 A5.out).mono ?_); (case side1 => repeat (first | exact (Kd.N_reads' HO293.out).2.2 | (with_reducible refine Kd.C_alloc ?_ _) | (with_reducible refine Kd.C_drewN ?_ _) | (with_reducible refine Kd.C_drew ?_))); (case side2 => exact (Kd.N_reads' HO293.out).2.1); rintro e wxc38f1 ⟨rfl, hb⟩; refine ⟨_, rfl, ?_⟩; have n0_ := Aside0.mk (Kd.V_below (by (with_reducible repeat (first | apply Kd.V_alloc | apply Kd.V_drewN | apply Kd.V_drew)); exact HO0.out) hb); have n1_ := Aside0.mk (Kd.V_below (by (with_reducible repeat (first | apply Kd.V_alloc | apply Kd.V_drewN | apply Kd.V_drew)); exact HO1.out) hb); have n2_ := Aside0.mk (Kd.N_below (by (with_reducible repeat (first | apply Kd.N_alloc | apply Kd.N_drewN | apply Kd.N_drew)); exact HO293.out) hb); have n3_ := Aside0.mk (below_step (by repeat (first | (with_reducible first | exact HB.out | apply below_alloc | apply pw_below_drewN | apply below_drew1) | exact HB.out)) hb); clear HO0; clear HO1; clear HO293; clear HB; have HO0 := n0_; have HO1 := n1_; have HO293 := n2_; have HB := n3_; clear n0_ n1_ n2_ n3_; (try clear hb); (try clear hb2); (try clear hk); (try clear hi)) | ((with_reducible refine gate_callee (f := 18) rfl ?_); refine goesL_ (some 17) rfl rfl Try.func18 (by kernel_rfl) rfl #[.slice Aoxf3591 y291.length coxf3591] rfl (by (try simp only [List.map_toArray, List.map_cons, List.map_nil]); first | done | rfl | (simp only [List.length_drop, List.length_take]; rfl)) ?_; (with_reducible refine (skywaykeep1_long.calls k _ _ y291 true _ ?side1 ?side2 A5.out).mono ?_); (case side1 => repeat (first | exact (Kd.N_reads' HO293.out).2.2 | (with_reducible refine Kd.C_alloc ?_ _) | (with_reducible refine Kd.C_drewN ?_ _) | (with_reducible refine Kd.C_drew ?_))); (case side2 => exact (Kd.N_reads' HO293.out).2.1); rintro e wxe2551 ⟨rfl, hb⟩; refine ⟨_, rfl, ?_⟩; have n0_ := Aside0.mk (Kd.V_below (by (with_reducible repeat (first | apply Kd.V_alloc | apply Kd.V_drewN | apply Kd.V_drew)); exact HO0.out) hb); have n1_ := Aside0.mk (Kd.V_below (by (with_reducible repeat (first | apply Kd.V_alloc | apply Kd.V_drewN | apply Kd.V_drew)); exact HO1.out) hb); have n2_ := Aside0.mk (Kd.N_below (by (with_reducible repeat (first | apply Kd.N_alloc | apply Kd.N_drewN | apply Kd.N_drew)); exact HO293.out) hb); have n3_ := Aside0.mk (below_step (by repeat (first | (with_reducible first | exact HB.out | apply below_alloc | apply pw_below_drewN | apply below_drew1) | exact HB.out)) hb); clear HO0; clear HO1; clear HO293; clear HB; have HO0 := n0_; have HO1 := n1_; have HO293 := n2_; have HB := n3_; clear n0_ n1_ n2_ n3_; (try clear hb); (try clear hb2); (try clear hk); (try clear hi)) | ((with_reducible refine gate_callee (f := 35) rfl ?_); refine goesL_ (some 21) rfl rfl Try.func35 (by kernel_rfl) rfl #[.slice A0 l0.length c0, .slice A1 l1.length c1] rfl (by (try simp only [List.map_toArray, List.map_cons, List.map_nil]); first | done | rfl | (simp only [List.length_drop, List.length_take]; rfl)) ?_; (with_reducible refine (probe_Margin.calls k (fun k_ => (((P0_ k_ ∨ P1_ k_) ∨ w.heap.size ≤ k_) ∧ some k_ ≠ (.slice Aoxf3591 y291.length coxf3591 : Value).ownBlock)) _ _ l0 (fun k_ => (((P0_ k_ ∨ P1_ k_) ∨ w.heap.size ≤ k_) ∧ some k_ ≠ (.slice Aoxf3591 y291.length coxf3591 : Value).ownBlock)) _ _ l1 t295 t296 _ ?side1 ?side2 A12.out).mono ?_); (case side1 => exact HO0.out); (case side2 => exact HO1.out); rintro e wx57811 ⟨rfl, hb⟩; refine ⟨_, rfl, ?_⟩; have n0_ := Aside0.mk (Kd.V_below (by (with_reducible repeat (first | apply Kd.V_alloc | apply Kd.V_drewN | apply Kd.V_drew)); exact HO0.out) hb); have n1_ := Aside0.mk (Kd.V_below (by (with_reducible repeat (first | apply Kd.V_alloc | apply Kd.V_drewN | apply Kd.V_drew)); exact HO1.out) hb); have n2_ := Aside0.mk (Kd.N_below (by (with_reducible repeat (first | apply Kd.N_alloc | apply Kd.N_drewN | apply Kd.N_drew)); exact HO293.out) hb); have n3_ := Aside0.mk (below_step (by repeat (first | (with_reducible first | exact HB.out | apply below_alloc | apply pw_below_drewN | apply below_drew1) | exact HB.out)) hb); clear HO0; clear HO1; clear HO293; clear HB; have HO0 := n0_; have HO1 := n1_; have HO293 := n2_; have HB := n3_; clear n0_ n1_ n2_ n3_; (try clear hb); (try clear hb2); (try clear hk); (try clear hi)))
     go_ret
     exact ⟨by first | rfl | (simp [errW_none, errW_some] <;> rfl) | (simp [*, errW_none, errW_some] <;> rfl), by repeat (first | (with_reducible first | exact HB.out | apply below_alloc | apply pw_below_drewN | apply below_drew1) | exact HB.out)⟩
   | clear hm1_1
     go_enter Try.func12, Try.ntmps12
     go_upto_region 8 with (first | ((with_reducible refine gate_callee (f := 30) rfl ?_); refine goesL_ (some 12) rfl rfl Try.func30 (by kernel_rfl) rfl #[] rfl (by (try simp only [List.map_toArray, List.map_cons, List.map_nil]); first | done | rfl | (simp only [List.length_drop, List.length_take]; rfl)) ?_; (with_reducible refine (skywaykeep1_probeWorks.calls k  true _ A3.out).mono ?_); rintro e wxa9a71 ⟨rfl, hb⟩; refine ⟨_, rfl, ?_⟩; have n0_ := Aside0.mk (Kd.V_below (by (with_reducible repeat (first | apply Kd.V_alloc | apply Kd.V_drewN | apply Kd.V_drew)); exact HO0.out) hb); have n1_ := Aside0.mk (Kd.V_below (by (with_reducible repeat (first | apply Kd.V_alloc | apply Kd.V_drewN | apply Kd.V_drew)); exact HO1.out) hb); have n2_ := Aside0.mk (below_step (by repeat (first | (with_reducible first | exact HB.out | apply below_alloc | apply pw_below_drewN | apply below_drew1) | exact HB.out)) hb); clear HO0; clear HO1; clear HB; have HO0 := n0_; have HO1 := n1_; have HB := n2_; clear n0_ n1_ n2_; (try clear hb); (try clear hb2); (try clear hk); (try clear hi)) | ((with_reducible refine gate_dst (N := 16) rfl ?_); (try (refine gate_guard (by rfl) ?_; dsimp only)); refine Kd.N_lit (Kd.slice 30 k30) _ 23 ?hg (N' := 16) ?hd (xs := ([l0, l1] : List (List (S30)))) (inner := [.slice A0 l0.length c0, .slice A1 l1.length c1]) (ok := (fun k_ => ((P0_ k_ ∨ P1_ k_) ∨ w.heap.size ≤ k_))) (okp := (fun k_ => ((P0_ k_ ∨ P1_ k_) ∨ w.heap.size ≤ k_))) ?hr ?hp (fun _ hk => hk) ((show ∀ k_, wxa9a71.heap.size ≤ k_ → (fun k_ => ((P0_ k_ ∨ P1_ k_) ∨ w.heap.size ≤ k_)) k_ from fun k_ hk => (.inr (Nat.le_trans (below_size (by repeat (first | (with_reducible first | exact HB.out | apply below_alloc | apply pw_below_drewN | apply below_drew1) | exact HB.out))) hk))) _ (Nat.le_refl _)) (Below.refl _ _) (Nat.le_refl _) (by simp) ?_; (case hd => rfl); (case hg => rfl); (case hr => first | (go_simp; done) | (go_simp; rfl)); (case hp => exact (Reps.one (show Kd.FK (Kd.slice 30 k30) _ _ l0 [.slice A0 l0.length c0] from (Kd.FK_slice_mk (Kd.V_reads' (Kd.V_mono (ok' := (fun k_ => ((P0_ k_ ∨ P1_ k_) ∨ w.heap.size ≤ k_))) (HO0.out) (fun k_ hk => hk))).2.1 (Kd.V_F (Kd.V_mono (ok' := (fun k_ => ((P0_ k_ ∨ P1_ k_) ∨ w.heap.size ≤ k_))) (HO0.out) (fun k_ hk => hk))))) (Reps.one (show Kd.FK (Kd.slice 30 k30) _ _ l1 [.slice A1 l1.length c1] from (Kd.FK_slice_mk (Kd.V_reads' (Kd.V_mono (ok' := (fun k_ => ((P0_ k_ ∨ P1_ k_) ∨ w.heap.size ≤ k_))) (HO1.out) (fun k_ hk => hk))).2.1 (Kd.V_F (Kd.V_mono (ok' := (fun k_ => ((P0_ k_ ∨ P1_ k_) ∨ w.heap.size ≤ k_))) (HO1.out) (fun k_ hk => hk))))) (Reps.none _ _)))); intro v292 wxf3591 hoxf3591 hb hg_ hnew_; clear hg_ hnew_; (first | rw [← Ny291.out] at hoxf3591 | (simp only [Int.reduceToNat] at hoxf3591; rw [← Ny291.out] at hoxf3591)); have n0_ := Aside0.mk (Kd.V_elder' (by (with_reducible repeat (first | apply Kd.V_alloc | apply Kd.V_drewN | apply Kd.V_drew)); exact HO0.out) (Kd.N_base hoxf3591) hb); have n1_ := Aside0.mk (Kd.V_elder' (by (with_reducible repeat (first | apply Kd.V_alloc | apply Kd.V_drewN | apply Kd.V_drew)); exact HO1.out) (Kd.N_base hoxf3591) hb); have n2_ := Aside0.mk (Kd.N_lower hoxf3591 (below_size (by repeat (first | (with_reducible first | exact HB.out | apply below_alloc | apply pw_below_drewN | apply below_drew1) | exact HB.out)))); have n3_ := Aside0.mk (below_step (by repeat (first | (with_reducible first | exact HB.out | apply below_alloc | apply pw_below_drewN | apply below_drew1) | exact HB.out)) hb); clear HO0; clear HO1; clear HB; have HO0 := n0_; have HO1 := n1_; have HO293 := n2_; have HB := n3_; clear n0_ n1_ n2_ n3_; clear hb hoxf3591; obtain ⟨Aoxf3591, coxf3591, eoxf3591⟩ := Kd.N_slice HO293.out; subst eoxf3591) | ((with_reducible refine gate_callee (f := 18) rfl ?_); refine goesL_ (some 17) rfl rfl Try.func18 (by kernel_rfl) rfl #[.slice Aoxf3591 y291.length coxf3591] rfl (by (try simp only [List.map_toArray, List.map_cons, List.map_nil]); first | done | rfl | (simp only [List.length_drop, List.length_take]; rfl)) ?_; (with_reducible refine (skywaykeep1_long.calls k _ _ y291 false _ ?side1 ?side2 A5.out).mono ?_); (case side1 => repeat (first | exact (Kd.N_reads' HO293.out).2.2 | (with_reducible refine Kd.C_alloc ?_ _) | (with_reducible refine Kd.C_drewN ?_ _) | (with_reducible refine Kd.C_drew ?_))); (case side2 => exact (Kd.N_reads' HO293.out).2.1); rintro e wxc38f1 ⟨rfl, hb⟩; refine ⟨_, rfl, ?_⟩; have n0_ := Aside0.mk (Kd.V_below (by (with_reducible repeat (first | apply Kd.V_alloc | apply Kd.V_drewN | apply Kd.V_drew)); exact HO0.out) hb); have n1_ := Aside0.mk (Kd.V_below (by (with_reducible repeat (first | apply Kd.V_alloc | apply Kd.V_drewN | apply Kd.V_drew)); exact HO1.out) hb); have n2_ := Aside0.mk (Kd.N_below (by (with_reducible repeat (first | apply Kd.N_alloc | apply Kd.N_drewN | apply Kd.N_drew)); exact HO293.out) hb); have n3_ := Aside0.mk (below_step (by repeat (first | (with_reducible first | exact HB.out | apply below_alloc | apply pw_below_drewN | apply below_drew1) | exact HB.out)) hb); clear HO0; clear HO1; clear HO293; clear HB; have HO0 := n0_; have HO1 := n1_; have HO293 := n2_; have HB := n3_; clear n0_ n1_ n2_ n3_; (try clear hb); (try clear hb2); (try clear hk); (try clear hi)) | ((with_reducible refine gate_callee (f := 35) rfl ?_); refine goesL_ (some 21) rfl rfl Try.func35 (by kernel_rfl) rfl #[.slice A0 l0.length c0, .slice A1 l1.length c1] rfl (by (try simp only [List.map_toArray, List.map_cons, List.map_nil]); first | done | rfl | (simp only [List.length_drop, List.length_take]; rfl)) ?_; (with_reducible refine (probe_Margin.calls k (fun k_ => (((P0_ k_ ∨ P1_ k_) ∨ w.heap.size ≤ k_) ∧ some k_ ≠ (.slice Aoxf3591 y291.length coxf3591 : Value).ownBlock)) _ _ l0 (fun k_ => (((P0_ k_ ∨ P1_ k_) ∨ w.heap.size ≤ k_) ∧ some k_ ≠ (.slice Aoxf3591 y291.length coxf3591 : Value).ownBlock)) _ _ l1 t295 t296 _ ?side1 ?side2 A12.out).mono ?_); (case side1 => exact HO0.out); (case side2 => exact HO1.out); rintro e wx57811 ⟨rfl, hb⟩; refine ⟨_, rfl, ?_⟩; have n0_ := Aside0.mk (Kd.V_below (by (with_reducible repeat (first | apply Kd.V_alloc | apply Kd.V_drewN | apply Kd.V_drew)); exact HO0.out) hb); have n1_ := Aside0.mk (Kd.V_below (by (with_reducible repeat (first | apply Kd.V_alloc | apply Kd.V_drewN | apply Kd.V_drew)); exact HO1.out) hb); have n2_ := Aside0.mk (Kd.N_below (by (with_reducible repeat (first | apply Kd.N_alloc | apply Kd.N_drewN | apply Kd.N_drew)); exact HO293.out) hb); have n3_ := Aside0.mk (below_step (by repeat (first | (with_reducible first | exact HB.out | apply below_alloc | apply pw_below_drewN | apply below_drew1) | exact HB.out)) hb); clear HO0; clear HO1; clear HO293; clear HB; have HO0 := n0_; have HO1 := n1_; have HO293 := n2_; have HB := n3_; clear n0_ n1_ n2_ n3_; (try clear hb); (try clear hb2); (try clear hk); (try clear hi)))
     (try simp only [Act.put, List.setIfInBounds_toArray, List.set_cons_zero, List.set_cons_succ])
     go_cut [33] (fun v33 wc => ∃ (kq : Nat) (x33_13 : Bool), v33 = .bool x33_13 ∧ Aside0 (skywaykeep1_ProbeMargin.j0 kq l0 l1 t295 x33_13 = some r) ∧ Aside0 (kq ≤ k) ∧ Aside0 (Kd.V k30 30 wc w.heap.size (fun k_ => ((P0_ k_ ∨ P1_ k_) ∨ w.heap.size ≤ k_)) (.slice A0 l0.length c0) l0) ∧ Aside0 (Kd.V k30 30 wc w.heap.size (fun k_ => ((P0_ k_ ∨ P1_ k_) ∨ w.heap.size ≤ k_)) (.slice A1 l1.length c1) l1) ∧ Aside0 (Below w.heap.size w wc))
     case first =>
      have H := HC14.out
      clear HC14
      refine Or.elim (Classical.em (t295 < 0)) (fun c21 => ?p6_) (fun c21 => ?n6_)
      case' p6_ =>
       rw [if_pos c21] at H
       have c21b0 : decide (t295 < 0) = true := decide_eq_true c21
       clear c21
       (first | rw [c21b0] | (simp only [i64_w, i32_w]; rw [c21b0]) | skip)
      case' n6_ =>
       rw [if_neg c21] at H
       have c21b0 : decide (t295 < 0) = false := decide_eq_false c21
       clear c21
       (first | rw [c21b0] | (simp only [i64_w, i32_w]; rw [c21b0]) | skip)
      all_goals
       have H' := Aside0.mk H
       clear H
       go_wp2
       go_meet
       case rel => first | (exact ⟨_, (true), (by first | rfl | (simp; done) | (simp [*]; done)), H', ⟨by first | omega | exact Nat.le_refl _⟩, ⟨by (with_reducible repeat (first | apply Kd.V_alloc | apply Kd.V_drewN | apply Kd.V_drew)); exact Kd.V_mono HO0.out (fun _ hk => hk.1)⟩, ⟨by (with_reducible repeat (first | apply Kd.V_alloc | apply Kd.V_drewN | apply Kd.V_drew)); exact Kd.V_mono HO1.out (fun _ hk => hk.1)⟩, ⟨by repeat (first | (with_reducible first | exact HB.out | apply below_alloc | apply pw_below_drewN | apply below_drew1) | exact HB.out)⟩⟩) | (exact ⟨_, (decide (t295 ≥ 1000000)), (by first | rfl | (simp; done) | (simp [*]; done)), H', ⟨by first | omega | exact Nat.le_refl _⟩, ⟨by (with_reducible repeat (first | apply Kd.V_alloc | apply Kd.V_drewN | apply Kd.V_drew)); exact Kd.V_mono HO0.out (fun _ hk => hk.1)⟩, ⟨by (with_reducible repeat (first | apply Kd.V_alloc | apply Kd.V_drewN | apply Kd.V_drew)); exact Kd.V_mono HO1.out (fun _ hk => hk.1)⟩, ⟨by repeat (first | (with_reducible first | exact HB.out | apply below_alloc | apply pw_below_drewN | apply below_drew1) | exact HB.out)⟩⟩)
     case rest =>
      clear HC14
      (try clear c1); (try clear p1); (try clear c2); (try clear p2); (try clear c3); (try clear c4); (try clear c6); (try clear c12); (try clear c13); (try clear c13b0); (try clear c13b1); (try clear c18); (try clear c21); (try clear c21b0)
      obtain ⟨kq, x33_13, rfl, HA, HJ13, HO_0, HO_1, HB⟩ := hcut
      cases kq with
      | zero => exact absurd HA.out (by simp [skywaykeep1_ProbeMargin.j0])
      | succ kj13 =>
       have H := HA.out
       clear HA
       simp only [skywaykeep1_ProbeMargin.j0] at H
       refine Or.elim (Classical.em (x33_13 = true)) (fun c22 => ?p8_) (fun c22 => ?n8_)
       case' p8_ =>
        subst c22
        have H1 : (some true) = some r := by rw [if_pos rfl] at H; exact H
        clear H
        have H := H1
        clear H1
        have hm7_0 := Aside0.mk trivial
       case' n8_ =>
        replace c22 := Bool.eq_false_iff.mpr c22
        subst c22
        have H1 : ((probe_Pair.f kj13 l0 l1 t295 60000).bind fun bt297 => ((skywaykeep1_ProbeMargin_1.f kj13 l0).bind fun t301 => ((skywaykeep1_ProbeMargin_1.f kj13 l1).bind fun t304 => ((probe_Pair.f kj13 t301 t304 (wrap64 (t295 + 1)) 60000).bind fun bt307 => (if bt297.2 = 0 then (if (bt297.1.length : Int) = 0 then (if bt307.2 = 0 then (some (decide ((bt307.1.length : Int) > 0))) else (some false)) else (some false)) else (some false)))))) = some r := by rw [if_neg (show ¬ (false = true) by decide)] at H; exact H
        clear H
        have H := H1
        clear H1
        replace H := Option.bind_eq_some_iff.mp H
        obtain ⟨⟨t297, t300⟩, A230, H⟩ := H
        replace H : ((skywaykeep1_ProbeMargin_1.f kj13 l0).bind fun t301 => ((skywaykeep1_ProbeMargin_1.f kj13 l1).bind fun t304 => ((probe_Pair.f kj13 t301 t304 (wrap64 (t295 + 1)) 60000).bind fun bt307 => (if t300 = 0 then (if (t297.length : Int) = 0 then (if bt307.2 = 0 then (some (decide ((bt307.1.length : Int) > 0))) else (some false)) else (some false)) else (some false))))) = some r := H
        have A23 := Aside0.mk A230
        clear A230
        replace H := Option.bind_eq_some_iff.mp H
        obtain ⟨t301, A240, H⟩ := H
        replace H : ((skywaykeep1_ProbeMargin_1.f kj13 l1).bind fun t304 => ((probe_Pair.f kj13 t301 t304 (wrap64 (t295 + 1)) 60000).bind fun bt307 => (if t300 = 0 then (if (t297.length : Int) = 0 then (if bt307.2 = 0 then (some (decide ((bt307.1.length : Int) > 0))) else (some false)) else (some false)) else (some false)))) = some r := H
        have A24 := Aside0.mk A240
        clear A240
        replace H := Option.bind_eq_some_iff.mp H
        obtain ⟨t304, A250, H⟩ := H
        replace H : ((probe_Pair.f kj13 t301 t304 (wrap64 (t295 + 1)) 60000).bind fun bt307 => (if t300 = 0 then (if (t297.length : Int) = 0 then (if bt307.2 = 0 then (some (decide ((bt307.1.length : Int) > 0))) else (some false)) else (some false)) else (some false))) = some r := H
        have A25 := Aside0.mk A250
        clear A250
        replace H := Option.bind_eq_some_iff.mp H
        obtain ⟨⟨t307, t310⟩, A260, H⟩ := H
        replace H : (if t300 = 0 then (if (t297.length : Int) = 0 then (if t310 = 0 then (some (decide ((t307.length : Int) > 0))) else (some false)) else (some false)) else (some false)) = some r := H
        have A26 := Aside0.mk A260
        clear A260
        refine Or.elim (Classical.em (t300 = 0)) (fun c27 => ?p9_) (fun c27 => ?n9_)
        case' p9_ =>
         rw [if_pos c27] at H
         have c27b0 : (t300 == 0) = true := beq_iff_eq.mpr c27
         have c27b1 : (t300 != 0) = false := bne_eq_false_iff_eq.mpr c27
         clear c27
         refine Or.elim (Classical.em ((t297.length : Int) = 0)) (fun c28 => ?p10_) (fun c28 => ?n10_)
         case' p10_ =>
          rw [if_pos c28] at H
          have c28b0 : ((t297.length : Int) == 0) = true := beq_iff_eq.mpr c28
          have c28b1 : ((t297.length : Int) != 0) = false := bne_eq_false_iff_eq.mpr c28
          clear c28
          refine Or.elim (Classical.em (t310 = 0)) (fun c29 => ?p11_) (fun c29 => ?n11_)
          case' p11_ =>
           rw [if_pos c29] at H
           have c29b0 : (t310 == 0) = true := beq_iff_eq.mpr c29
           have c29b1 : (t310 != 0) = false := bne_eq_false_iff_eq.mpr c29
           clear c29
           have hm7_1 := Aside0.mk trivial
          case' n11_ =>
           rw [if_neg c29] at H
           have c29b0 : (t310 == 0) = false := beq_eq_false_iff_ne.mpr c29
           have c29b1 : (t310 != 0) = true := bne_iff_ne.mpr c29
           have hm7_1 := Aside0.mk trivial
         case' n10_ =>
          rw [if_neg c28] at H
          have c28b0 : ((t297.length : Int) == 0) = false := beq_eq_false_iff_ne.mpr c28
          have c28b1 : ((t297.length : Int) != 0) = true := bne_iff_ne.mpr c28
          have c28b2 : ¬ (t297 = []) := fun h_ => c28 (by rw [h_]; rfl)
          have hm7_1 := Aside0.mk trivial
        case' n9_ =>
         rw [if_neg c27] at H
         have c27b0 : (t300 == 0) = false := beq_eq_false_iff_ne.mpr c27
         have c27b1 : (t300 != 0) = true := bne_iff_ne.mpr c27
         have hm7_1 := Aside0.mk trivial
       all_goals
        obtain rfl := Option.some.inj H
        first
         | clear hm7_0
           go_wp2
           go_ret
           exact ⟨by first | rfl | (simp [errW_none, errW_some] <;> rfl) | (simp [*, errW_none, errW_some] <;> rfl), by repeat (first | (with_reducible first | exact HB.out | apply below_alloc | apply pw_below_drewN | apply below_drew1) | exact HB.out)⟩
         | clear hm7_1
           go_wp2_with (first | ((with_reducible refine gate_callee (f := 34) rfl ?_); refine goesL_ (some 39) rfl rfl Try.func34 (by kernel_rfl) rfl #[.slice A0 l0.length c0, .slice A1 l1.length c1, .agg #[.int .i64 t295, .int .i64 60000]] rfl (by (try simp only [List.map_toArray, List.map_cons, List.map_nil]); first | done | rfl | (simp only [List.length_drop, List.length_take]; rfl)) ?_; (with_reducible refine (probe_Pair.calls kj13 (fun k_ => ((P0_ k_ ∨ P1_ k_) ∨ w.heap.size ≤ k_)) _ _ l0 (fun k_ => ((P0_ k_ ∨ P1_ k_) ∨ w.heap.size ≤ k_)) _ _ l1 t295 60000 t297 t300 _ ?side1 ?side2 A23.out).mono ?_); (case side1 => exact HO_0.out); (case side2 => exact HO_1.out); rintro e wx66ee1 ⟨v298, rfl, hox66ee1, hb⟩; refine ⟨_, rfl, ?_⟩; have n0_ := Aside0.mk (Kd.V_elder' (by (with_reducible repeat (first | apply Kd.V_alloc | apply Kd.V_drewN | apply Kd.V_drew)); exact HO_0.out) (Kd.R_base hox66ee1) hb); have n1_ := Aside0.mk (Kd.V_elder' (by (with_reducible repeat (first | apply Kd.V_alloc | apply Kd.V_drewN | apply Kd.V_drew)); exact HO_1.out) (Kd.R_base hox66ee1) hb); have n2_ := Aside0.mk (Kd.R_lower (Kd.R_newM (M := fun k_ => (w.heap.size ≤ k_)) (Kd.R_mono (ok' := fun k_ => True) hox66ee1 (fun _ hk_ => trivial)) (below_size (by repeat (first | (with_reducible first | exact HB.out | apply below_alloc | apply pw_below_drewN | apply below_drew1) | exact HB.out))) (fun k_ h_ => h_)) (below_size (by repeat (first | (with_reducible first | exact HB.out | apply below_alloc | apply pw_below_drewN | apply below_drew1) | exact HB.out)))); have n3_ := Aside0.mk (below_step (by repeat (first | (with_reducible first | exact HB.out | apply below_alloc | apply pw_below_drewN | apply below_drew1) | exact HB.out)) hb); clear HO_0; clear HO_1; clear HB; have HO_0 := n0_; have HO_1 := n1_; have HO299 := n2_; have HB := n3_; clear n0_ n1_ n2_ n3_; (try clear hb); (try clear hb2); (try clear hk); (try clear hi); (try clear hox66ee1)) | ((with_reducible refine FnF.gateT (f := 36) rfl rfl ?_); refine FnF.goesT_ (some 45) rfl rfl Try.func36 (by kernel_rfl) rfl #[.slice A0 l0.length c0] rfl rfl (by (try simp only [List.map_toArray, List.map_cons, List.map_nil]); first | done | rfl | (simp only [List.length_drop, List.length_take]; rfl)) ?_; (with_reducible refine (skywaykeep1_ProbeMargin_1.calls kj13 _ _ l0 t301 _ ?side1 ?side2 A24.out).mono ?_); (case side1 => repeat (first | exact (Kd.V_reads' HO_0.out).2.2 | (with_reducible refine Kd.C_alloc ?_ _) | (with_reducible refine Kd.C_drewN ?_ _) | (with_reducible refine Kd.C_drew ?_))); (case side2 => exact (Kd.V_reads' HO_0.out).2.1); rintro e wxa4911 ⟨v302, rfl, hox66ee1, hb⟩; refine ⟨_, rfl, ?_⟩; have n0_ := Aside0.mk (Kd.V_elder' (by (with_reducible repeat (first | apply Kd.V_alloc | apply Kd.V_drewN | apply Kd.V_drew)); exact HO_0.out) (Kd.R_base hox66ee1) hb); have n1_ := Aside0.mk (Kd.V_elder' (by (with_reducible repeat (first | apply Kd.V_alloc | apply Kd.V_drewN | apply Kd.V_drew)); exact HO_1.out) (Kd.R_base hox66ee1) hb); have n2_ := Aside0.mk (Kd.R_below (by (with_reducible repeat (first | apply Kd.R_alloc | apply Kd.R_drewN | apply Kd.R_drew)); exact HO299.out) hb); have n3_ := Aside0.mk (Kd.R_lower (Kd.R_newM (M := fun k_ => (w.heap.size ≤ k_)) hox66ee1 (below_size (by repeat (first | (with_reducible first | exact HB.out | apply below_alloc | apply pw_below_drewN | apply below_drew1) | exact HB.out))) (fun k_ h_ => h_)) (below_size (by repeat (first | (with_reducible first | exact HB.out | apply below_alloc | apply pw_below_drewN | apply below_drew1) | exact HB.out)))); have n4_ := Aside0.mk (below_step (by repeat (first | (with_reducible first | exact HB.out | apply below_alloc | apply pw_below_drewN | apply below_drew1) | exact HB.out)) hb); clear HO_0; clear HO_1; clear HO299; clear HB; have HO_0 := n0_; have HO_1 := n1_; have HO299 := n2_; have HO303 := n3_; have HB := n4_; clear n0_ n1_ n2_ n3_ n4_; (try clear hb); (try clear hb2); (try clear hk); (try clear hi); (try clear hox66ee1)) | ((with_reducible refine FnF.gateT (f := 36) rfl rfl ?_); refine FnF.goesT_ (some 48) rfl rfl Try.func36 (by kernel_rfl) rfl #[.slice A1 l1.length c1] rfl rfl (by (try simp only [List.map_toArray, List.map_cons, List.map_nil]); first | done | rfl | (simp only [List.length_drop, List.length_take]; rfl)) ?_; (with_reducible refine (skywaykeep1_ProbeMargin_1.calls kj13 _ _ l1 t304 _ ?side1 ?side2 A25.out).mono ?_); (case side1 => repeat (first | exact (Kd.V_reads' HO_1.out).2.2 | (with_reducible refine Kd.C_alloc ?_ _) | (with_reducible refine Kd.C_drewN ?_ _) | (with_reducible refine Kd.C_drew ?_))); (case side2 => exact (Kd.V_reads' HO_1.out).2.1); rintro e wx3f9a1 ⟨v305, rfl, hox66ee1, hb⟩; refine ⟨_, rfl, ?_⟩; have n0_ := Aside0.mk (Kd.V_elder' (by (with_reducible repeat (first | apply Kd.V_alloc | apply Kd.V_drewN | apply Kd.V_drew)); exact HO_0.out) (Kd.R_base hox66ee1) hb); have n1_ := Aside0.mk (Kd.V_elder' (by (with_reducible repeat (first | apply Kd.V_alloc | apply Kd.V_drewN | apply Kd.V_drew)); exact HO_1.out) (Kd.R_base hox66ee1) hb); have n2_ := Aside0.mk (Kd.R_below (by (with_reducible repeat (first | apply Kd.R_alloc | apply Kd.R_drewN | apply Kd.R_drew)); exact HO299.out) hb); have n3_ := Aside0.mk (Kd.R_elder' (by (with_reducible repeat (first | apply Kd.R_alloc | apply Kd.R_drewN | apply Kd.R_drew)); exact HO303.out) (Kd.R_base hox66ee1) hb); have n4_ := Aside0.mk (Kd.R_lower (Kd.R_new' (Kd.R_newM (M := fun k_ => (w.heap.size ≤ k_)) hox66ee1 (below_size (by repeat (first | (with_reducible first | exact HB.out | apply below_alloc | apply pw_below_drewN | apply below_drew1) | exact HB.out))) (fun k_ h_ => h_)) (Kd.R_lt (by (with_reducible repeat (first | apply Kd.R_alloc | apply Kd.R_drewN | apply Kd.R_drew)); exact HO303.out))) (below_size (by repeat (first | (with_reducible first | exact HB.out | apply below_alloc | apply pw_below_drewN | apply below_drew1) | exact HB.out)))); have n5_ := Aside0.mk (below_step (by repeat (first | (with_reducible first | exact HB.out | apply below_alloc | apply pw_below_drewN | apply below_drew1) | exact HB.out)) hb); clear HO_0; clear HO_1; clear HO299; clear HO303; clear HB; have HO_0 := n0_; have HO_1 := n1_; have HO299 := n2_; have HO303 := n3_; have HO306 := n4_; have HB := n5_; clear n0_ n1_ n2_ n3_ n4_ n5_; (try clear hb); (try clear hb2); (try clear hk); (try clear hi); (try clear hox66ee1); obtain ⟨Aox3f9a1, cox3f9a1, eox3f9a1⟩ := Kd.R_slice HO303.out; subst eox3f9a1; obtain ⟨Aox3f9a2, cox3f9a2, eox3f9a2⟩ := Kd.R_slice HO306.out; subst eox3f9a2) | ((with_reducible refine gate_callee (f := 34) rfl ?_); refine goesL_ (some 52) rfl rfl Try.func34 (by kernel_rfl) rfl #[.slice Aox3f9a1 t301.length cox3f9a1, .slice Aox3f9a2 t304.length cox3f9a2, .agg #[.int .i64 (wrap64 (t295 + 1)), .int .i64 60000]] rfl (by (try simp only [List.map_toArray, List.map_cons, List.map_nil]); first | done | rfl | (simp only [List.length_drop, List.length_take]; rfl)) ?_; (with_reducible refine (probe_Pair.calls kj13 (fun k_ => some k_ = (.slice Aox3f9a1 t301.length cox3f9a1 : Value).ownBlock) _ _ t301 (fun k_ => some k_ = (.slice Aox3f9a2 t304.length cox3f9a2 : Value).ownBlock) _ _ t304 (wrap64 (t295 + 1)) 60000 t307 t310 _ ?side1 ?side2 A26.out).mono ?_); (case side1 => exact Kd.R_V (Kd.R_tight rfl (Kd.R_apart' (HO303.out) (Kd.R_typed HO299.out) (by decide)))); (case side2 => exact Kd.R_V (Kd.R_tight rfl (Kd.R_apart' (HO306.out) (Kd.R_typed HO299.out) (by decide)))); rintro e wxd0e61 ⟨v308, rfl, hox66ee1, hb⟩; refine ⟨_, rfl, ?_⟩; have n0_ := Aside0.mk (Kd.V_elder' (by (with_reducible repeat (first | apply Kd.V_alloc | apply Kd.V_drewN | apply Kd.V_drew)); exact HO_0.out) (Kd.R_base hox66ee1) hb); have n1_ := Aside0.mk (Kd.V_elder' (by (with_reducible repeat (first | apply Kd.V_alloc | apply Kd.V_drewN | apply Kd.V_drew)); exact HO_1.out) (Kd.R_base hox66ee1) hb); have n2_ := Aside0.mk (Kd.R_elder' (by (with_reducible repeat (first | apply Kd.R_alloc | apply Kd.R_drewN | apply Kd.R_drew)); exact HO299.out) (Kd.R_base hox66ee1) hb); have n3_ := Aside0.mk (Kd.R_below (by (with_reducible repeat (first | apply Kd.R_alloc | apply Kd.R_drewN | apply Kd.R_drew)); exact HO303.out) hb); have n4_ := Aside0.mk (Kd.R_below (by (with_reducible repeat (first | apply Kd.R_alloc | apply Kd.R_drewN | apply Kd.R_drew)); exact HO306.out) hb); have n5_ := Aside0.mk (Kd.R_lower (Kd.R_new' (Kd.R_newM (M := fun k_ => (w.heap.size ≤ k_)) (Kd.R_mono (ok' := fun k_ => True) hox66ee1 (fun _ hk_ => trivial)) (below_size (by repeat (first | (with_reducible first | exact HB.out | apply below_alloc | apply pw_below_drewN | apply below_drew1) | exact HB.out))) (fun k_ h_ => h_)) (Kd.R_lt (by (with_reducible repeat (first | apply Kd.R_alloc | apply Kd.R_drewN | apply Kd.R_drew)); exact HO299.out))) (below_size (by repeat (first | (with_reducible first | exact HB.out | apply below_alloc | apply pw_below_drewN | apply below_drew1) | exact HB.out)))); have n6_ := Aside0.mk (below_step (by repeat (first | (with_reducible first | exact HB.out | apply below_alloc | apply pw_below_drewN | apply below_drew1) | exact HB.out)) hb); clear HO_0; clear HO_1; clear HO299; clear HO303; clear HO306; clear HB; have HO_0 := n0_; have HO_1 := n1_; have HO299 := n2_; have HO303 := n3_; have HO306 := n4_; have HO309 := n5_; have HB := n6_; clear n0_ n1_ n2_ n3_ n4_ n5_ n6_; (try clear hb); (try clear hb2); (try clear hk); (try clear hi); (try clear hox66ee1); obtain ⟨Aoxd0e61, coxd0e61, eoxd0e61⟩ := Kd.R_slice HO299.out; subst eoxd0e61; obtain ⟨Aoxd0e62, coxd0e62, eoxd0e62⟩ := Kd.R_slice HO309.out; subst eoxd0e62) | ((with_reducible refine gate_callee (f := 34) rfl ?_); refine goesL_ (some 52) rfl rfl Try.func34 (by kernel_rfl) rfl #[.slice Aox3f9a1 t301.length cox3f9a1, .slice Aox3f9a2 t304.length cox3f9a2, .agg #[.int .i64 (wrap64 (t295 + 1)), .int .i64 60000]] rfl (by (try simp only [List.map_toArray, List.map_cons, List.map_nil]); first | done | rfl | (simp only [List.length_drop, List.length_take]; rfl)) ?_; (with_reducible refine (probe_Pair.calls kj13 (fun k_ => some k_ = (.slice Aox3f9a1 t301.length cox3f9a1 : Value).ownBlock) _ _ t301 (fun k_ => some k_ = (.slice Aox3f9a2 t304.length cox3f9a2 : Value).ownBlock) _ _ t304 (wrap64 (t295 + 1)) 60000 t307 t310 _ ?side1 ?side2 A26.out).mono ?_); (case side1 => exact Kd.R_V (Kd.R_tight rfl (Kd.R_apart' (HO303.out) (Kd.R_typed HO299.out) (by decide)))); (case side2 => exact Kd.R_V (Kd.R_tight rfl (Kd.R_apart' (HO306.out) (Kd.R_typed HO299.out) (by decide)))); rintro e wx94b51 ⟨v308, rfl, hox66ee1, hb⟩; refine ⟨_, rfl, ?_⟩; have n0_ := Aside0.mk (Kd.V_elder' (by (with_reducible repeat (first | apply Kd.V_alloc | apply Kd.V_drewN | apply Kd.V_drew)); exact HO_0.out) (Kd.R_base hox66ee1) hb); have n1_ := Aside0.mk (Kd.V_elder' (by (with_reducible repeat (first | apply Kd.V_alloc | apply Kd.V_drewN | apply Kd.V_drew)); exact HO_1.out) (Kd.R_base hox66ee1) hb); have n2_ := Aside0.mk (Kd.R_elder' (by (with_reducible repeat (first | apply Kd.R_alloc | apply Kd.R_drewN | apply Kd.R_drew)); exact HO299.out) (Kd.R_base hox66ee1) hb); have n3_ := Aside0.mk (Kd.R_below (by (with_reducible repeat (first | apply Kd.R_alloc | apply Kd.R_drewN | apply Kd.R_drew)); exact HO303.out) hb); have n4_ := Aside0.mk (Kd.R_below (by (with_reducible repeat (first | apply Kd.R_alloc | apply Kd.R_drewN | apply Kd.R_drew)); exact HO306.out) hb); have n5_ := Aside0.mk (Kd.R_lower (Kd.R_new' (Kd.R_newM (M := fun k_ => (w.heap.size ≤ k_)) (Kd.R_mono (ok' := fun k_ => True) hox66ee1 (fun _ hk_ => trivial)) (below_size (by repeat (first | (with_reducible first | exact HB.out | apply below_alloc | apply pw_below_drewN | apply below_drew1) | exact HB.out))) (fun k_ h_ => h_)) (Kd.R_lt (by (with_reducible repeat (first | apply Kd.R_alloc | apply Kd.R_drewN | apply Kd.R_drew)); exact HO299.out))) (below_size (by repeat (first | (with_reducible first | exact HB.out | apply below_alloc | apply pw_below_drewN | apply below_drew1) | exact HB.out)))); have n6_ := Aside0.mk (below_step (by repeat (first | (with_reducible first | exact HB.out | apply below_alloc | apply pw_below_drewN | apply below_drew1) | exact HB.out)) hb); clear HO_0; clear HO_1; clear HO299; clear HO303; clear HO306; clear HB; have HO_0 := n0_; have HO_1 := n1_; have HO299 := n2_; have HO303 := n3_; have HO306 := n4_; have HO309 := n5_; have HB := n6_; clear n0_ n1_ n2_ n3_ n4_ n5_ n6_; (try clear hb); (try clear hb2); (try clear hk); (try clear hi); (try clear hox66ee1); obtain ⟨Aox94b51, cox94b51, eox94b51⟩ := Kd.R_slice HO299.out; subst eox94b51) | ((with_reducible refine gate_callee (f := 34) rfl ?_); refine goesL_ (some 52) rfl rfl Try.func34 (by kernel_rfl) rfl #[.slice Aox3f9a1 t301.length cox3f9a1, .slice Aox3f9a2 t304.length cox3f9a2, .agg #[.int .i64 (wrap64 (t295 + 1)), .int .i64 60000]] rfl (by (try simp only [List.map_toArray, List.map_cons, List.map_nil]); first | done | rfl | (simp only [List.length_drop, List.length_take]; rfl)) ?_; (with_reducible refine (probe_Pair.calls kj13 (fun k_ => some k_ = (.slice Aox3f9a1 t301.length cox3f9a1 : Value).ownBlock) _ _ t301 (fun k_ => some k_ = (.slice Aox3f9a2 t304.length cox3f9a2 : Value).ownBlock) _ _ t304 (wrap64 (t295 + 1)) 60000 t307 t310 _ ?side1 ?side2 A26.out).mono ?_); (case side1 => exact Kd.R_V (Kd.R_tight rfl (Kd.R_apart' (HO303.out) (Kd.R_typed HO299.out) (by decide)))); (case side2 => exact Kd.R_V (Kd.R_tight rfl (Kd.R_apart' (HO306.out) (Kd.R_typed HO299.out) (by decide)))); rintro e wxac4c1 ⟨v308, rfl, hox66ee1, hb⟩; refine ⟨_, rfl, ?_⟩; have n0_ := Aside0.mk (Kd.V_elder' (by (with_reducible repeat (first | apply Kd.V_alloc | apply Kd.V_drewN | apply Kd.V_drew)); exact HO_0.out) (Kd.R_base hox66ee1) hb); have n1_ := Aside0.mk (Kd.V_elder' (by (with_reducible repeat (first | apply Kd.V_alloc | apply Kd.V_drewN | apply Kd.V_drew)); exact HO_1.out) (Kd.R_base hox66ee1) hb); have n2_ := Aside0.mk (Kd.R_elder' (by (with_reducible repeat (first | apply Kd.R_alloc | apply Kd.R_drewN | apply Kd.R_drew)); exact HO299.out) (Kd.R_base hox66ee1) hb); have n3_ := Aside0.mk (Kd.R_below (by (with_reducible repeat (first | apply Kd.R_alloc | apply Kd.R_drewN | apply Kd.R_drew)); exact HO303.out) hb); have n4_ := Aside0.mk (Kd.R_below (by (with_reducible repeat (first | apply Kd.R_alloc | apply Kd.R_drewN | apply Kd.R_drew)); exact HO306.out) hb); have n5_ := Aside0.mk (Kd.R_lower (Kd.R_new' (Kd.R_newM (M := fun k_ => (w.heap.size ≤ k_)) (Kd.R_mono (ok' := fun k_ => True) hox66ee1 (fun _ hk_ => trivial)) (below_size (by repeat (first | (with_reducible first | exact HB.out | apply below_alloc | apply pw_below_drewN | apply below_drew1) | exact HB.out))) (fun k_ h_ => h_)) (Kd.R_lt (by (with_reducible repeat (first | apply Kd.R_alloc | apply Kd.R_drewN | apply Kd.R_drew)); exact HO299.out))) (below_size (by repeat (first | (with_reducible first | exact HB.out | apply below_alloc | apply pw_below_drewN | apply below_drew1) | exact HB.out)))); have n6_ := Aside0.mk (below_step (by repeat (first | (with_reducible first | exact HB.out | apply below_alloc | apply pw_below_drewN | apply below_drew1) | exact HB.out)) hb); clear HO_0; clear HO_1; clear HO299; clear HO303; clear HO306; clear HB; have HO_0 := n0_; have HO_1 := n1_; have HO299 := n2_; have HO303 := n3_; have HO306 := n4_; have HO309 := n5_; have HB := n6_; clear n0_ n1_ n2_ n3_ n4_ n5_ n6_; (try clear hb); (try clear hb2); (try clear hk); (try clear hi); (try clear hox66ee1)))
           go_ret
           exact ⟨by first | rfl | (simp [errW_none, errW_some] <;> rfl) | (simp [*, errW_none, errW_some] <;> rfl), by repeat (first | (with_reducible first | exact HB.out | apply below_alloc | apply pw_below_drewN | apply below_drew1) | exact HB.out)⟩

/-- What is told of a value of struct type 26 that came in. -/
def good26 (x : S26) : Prop := ((Lit.int .i64 x.f0).wf = true) ∧ (Lit.int .i64 x.f1).wf = true
/-- What is told of a value of struct type 28 that came in. -/
def good28 (x : S28) : Prop := ((Lit.int .i64 x.f0).wf = true) ∧ (good26 x.f1) ∧ (Lit.int .i64 x.f2).wf = true
/-- What is told of a value of struct type 30 that came in. -/
def good30 (x : S30) : Prop := (good28 x.f0) ∧ ((Lit.int .i64 x.f1).wf = true) ∧ (Lit.int .i64 x.f2).wf = true
/-- THE ONE PURE STATEMENT of skywaykeep1_ProbeMargin. -/
def skywaykeep1_ProbeMargin.Pure : Prop := ∀ (l0 : List (S30)) (l1 : List (S30)), (l0.length * 48 ≤ 140737488351232 ∧ ∀ y0 ∈ l0, good30 y0) → (l1.length * 48 ≤ 140737488351232 ∧ ∀ y0 ∈ l1, good30 y0) → ∃ k, skywaykeep1_ProbeMargin.f k l0 l1 = some true

end Go.Proofs.Yteaddpieonkboab.PProbeMargin
