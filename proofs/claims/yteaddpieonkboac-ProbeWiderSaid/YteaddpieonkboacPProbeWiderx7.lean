/- Made by a program of this session (wip/tools/myprint.py, over the kit's printer): that the Go functions answer as the Lean functions printed beside them. -/
import Derived.Test.YteaddpieonkboacPProbeWiderx0
import Derived.Test.YteaddpieonkboacPProbeWiderx5
import Derived.Test.YteaddpieonkboacPProbeWiderx6
namespace Go.Proofs.Yteaddpieonkboac.PProbeWider
open Go.RowKit Go.Proofs.YteaddpieonkboacW.PrintWords Go.Proofs.YteaddpieonkboacW.PrintLast Go.Proofs.YteaddpieonkboacW.PrintMore
attribute [local go_sem] max2_int min2_int max_two min_two max_three min_three max_four min_four   -- for this text's walks alone
set_option linter.unusedVariables false
set_option linter.unusedSimpArgs false

/-! ### skywaykeep1_ProbeWider: function 3 -/
mutual
def skywaykeep1_ProbeWider.j0 : Nat → List (S35) → List (S35) → Bool → Option (Bool)
  | 0, _, _, _ => none
  | k + 1, x11, x13, x60 => if x60 = true then (some true) else (skywaykeep1_ProbeWider.l0 k x13 x11 (x11.length : Int) 0)
def skywaykeep1_ProbeWider.l0 : Nat → List (S35) → List (S35) → Int → Int → Option (Bool)
  | 0, _, _, _, _ => none
  | k + 1, x13, x61, x62, x63 => if x63 < x62 then (if 0 ≤ x63 then (if x63 < (x61.length : Int) then (skywaykeep1_ProbeWider.l1 k x13 false x61 x62 x63 x13 (x13.length : Int) 0 ((rd_T35 x61 x63).f0) ((rd_T35 x61 x63).f1)) else (none)) else (none)) else (some true)
def skywaykeep1_ProbeWider.l1 : Nat → List (S35) → Bool → List (S35) → Int → Int → List (S35) → Int → Int → Int → Int → Option (Bool)
  | 0, _, _, _, _, _, _, _, _, _, _ => none
  | k + 1, x13, x17, x61, x62, x63, x67, x68, x69, x312000, x312001 => if x69 < x68 then (if 0 ≤ x69 then (if x69 < (x67.length : Int) then (if x17 = true then (skywaykeep1_ProbeWider.l1 k x13 true x61 x62 x63 x67 x68 (wrap64 (x69 + 1)) x312000 x312001) else (if ((rd_T35 x67 x69).f0) ≤ x312000 then (skywaykeep1_ProbeWider.l1 k x13 (decide (x312001 ≤ ((rd_T35 x67 x69).f1))) x61 x62 x63 x67 x68 (wrap64 (x69 + 1)) x312000 x312001) else (skywaykeep1_ProbeWider.l1 k x13 false x61 x62 x63 x67 x68 (wrap64 (x69 + 1)) x312000 x312001))) else (none)) else (none)) else (if x17 = true then (skywaykeep1_ProbeWider.l0 k x13 x61 x62 (wrap64 (x63 + 1))) else (some false))
end
def skywaykeep1_ProbeWider.f (k : Nat) (l0 : List (S102)) (l1 : List (S102)) (a2_0 : Int) (a2_1 : Int) (a3 : Int) : Option (Bool) := (skywaykeep1_probeWorks.f k).bind fun t293 => (if t293 = true then ((skywaykeep1_long.f k (([l0, l1] : List (List (S102))))).bind fun t297 => (if t297 = true then (some true) else ((tube_Widen.f k l0 (Int.tmod (wrap64 ((Int.tmod a3 500) + 500)) 500) (Int.tmod (wrap64 ((Int.tmod a3 500) + 500)) 500)).bind fun bt298 => ((probe_Pair.f k l0 l1 a2_0 a2_1).bind fun bt302 => ((probe_Pair.f k bt298.1 l1 a2_0 a2_1).bind fun bt306 => (if bt298.2 = 0 then (if bt302.2 = 0 then (skywaykeep1_ProbeWider.j0 k bt302.1 bt306.1 (bt306.2 != 0)) else (skywaykeep1_ProbeWider.j0 k bt302.1 bt306.1 true)) else (skywaykeep1_ProbeWider.j0 k bt302.1 bt306.1 true))))))) else (some false))
theorem skywaykeep1_ProbeWider.mono_l : ∀ k, (∀ y0 y1 y2, LeO (skywaykeep1_ProbeWider.j0 k y0 y1 y2) (skywaykeep1_ProbeWider.j0 (k + 1) y0 y1 y2)) ∧ (∀ y0 y1 y2 y3, LeO (skywaykeep1_ProbeWider.l0 k y0 y1 y2 y3) (skywaykeep1_ProbeWider.l0 (k + 1) y0 y1 y2 y3)) ∧ (∀ y0 y1 y2 y3 y4 y5 y6 y7 y8 y9, LeO (skywaykeep1_ProbeWider.l1 k y0 y1 y2 y3 y4 y5 y6 y7 y8 y9) (skywaykeep1_ProbeWider.l1 (k + 1) y0 y1 y2 y3 y4 y5 y6 y7 y8 y9))
  | 0 => ⟨fun _ _ _ r h => by simp [skywaykeep1_ProbeWider.j0] at h, fun _ _ _ _ r h => by simp [skywaykeep1_ProbeWider.l0] at h, fun _ _ _ _ _ _ _ _ _ _ r h => by simp [skywaykeep1_ProbeWider.l1] at h⟩
  | k + 1 => by
    obtain ⟨ih0, ih1, ih2⟩ := skywaykeep1_ProbeWider.mono_l k
    refine ⟨?_, ?_, ?_⟩
    · intro y0 y1 y2
      unfold skywaykeep1_ProbeWider.j0
      repeat' first
      | (with_reducible exact ih0 _ _ _)
      | (with_reducible exact ih1 _ _ _ _)
      | (with_reducible exact ih2 _ _ _ _ _ _ _ _ _ _)
      | (with_reducible exact probe_Pair.mono _ _ _ _ _)
      | (with_reducible exact skywaykeep1_long.mono _ _)
      | (with_reducible exact skywaykeep1_probeWorks.mono _)
      | (with_reducible exact tube_Widen.mono _ _ _ _)
      | (with_reducible exact LeO.refl _)
      | (with_reducible exact LeO.none _)
      | (with_reducible refine LeO.ite ?_ ?_)
      | (with_reducible refine LeO.bind ?_ (fun _ => ?_))
      | exact ih0 _ _ _
      | exact ih1 _ _ _ _
      | exact ih2 _ _ _ _ _ _ _ _ _ _
      | exact probe_Pair.mono _ _ _ _ _
      | exact skywaykeep1_long.mono _ _
      | exact skywaykeep1_probeWorks.mono _
      | exact tube_Widen.mono _ _ _ _
      | exact LeO.none _
      | refine LeO.ite ?_ ?_
      | refine LeO.bind ?_ (fun _ => ?_)
    · intro y0 y1 y2 y3
      unfold skywaykeep1_ProbeWider.l0
      repeat' first
      | (with_reducible exact ih0 _ _ _)
      | (with_reducible exact ih1 _ _ _ _)
      | (with_reducible exact ih2 _ _ _ _ _ _ _ _ _ _)
      | (with_reducible exact probe_Pair.mono _ _ _ _ _)
      | (with_reducible exact skywaykeep1_long.mono _ _)
      | (with_reducible exact skywaykeep1_probeWorks.mono _)
      | (with_reducible exact tube_Widen.mono _ _ _ _)
      | (with_reducible exact LeO.refl _)
      | (with_reducible exact LeO.none _)
      | (with_reducible refine LeO.ite ?_ ?_)
      | (with_reducible refine LeO.bind ?_ (fun _ => ?_))
      | exact ih0 _ _ _
      | exact ih1 _ _ _ _
      | exact ih2 _ _ _ _ _ _ _ _ _ _
      | exact probe_Pair.mono _ _ _ _ _
      | exact skywaykeep1_long.mono _ _
      | exact skywaykeep1_probeWorks.mono _
      | exact tube_Widen.mono _ _ _ _
      | exact LeO.none _
      | refine LeO.ite ?_ ?_
      | refine LeO.bind ?_ (fun _ => ?_)
    · intro y0 y1 y2 y3 y4 y5 y6 y7 y8 y9
      unfold skywaykeep1_ProbeWider.l1
      repeat' first
      | (with_reducible exact ih0 _ _ _)
      | (with_reducible exact ih1 _ _ _ _)
      | (with_reducible exact ih2 _ _ _ _ _ _ _ _ _ _)
      | (with_reducible exact probe_Pair.mono _ _ _ _ _)
      | (with_reducible exact skywaykeep1_long.mono _ _)
      | (with_reducible exact skywaykeep1_probeWorks.mono _)
      | (with_reducible exact tube_Widen.mono _ _ _ _)
      | (with_reducible exact LeO.refl _)
      | (with_reducible exact LeO.none _)
      | (with_reducible refine LeO.ite ?_ ?_)
      | (with_reducible refine LeO.bind ?_ (fun _ => ?_))
      | exact ih0 _ _ _
      | exact ih1 _ _ _ _
      | exact ih2 _ _ _ _ _ _ _ _ _ _
      | exact probe_Pair.mono _ _ _ _ _
      | exact skywaykeep1_long.mono _ _
      | exact skywaykeep1_probeWorks.mono _
      | exact tube_Widen.mono _ _ _ _
      | exact LeO.none _
      | refine LeO.ite ?_ ?_
      | refine LeO.bind ?_ (fun _ => ?_)
theorem skywaykeep1_ProbeWider.mono : ∀ a0 a1 a2 a3 a4 k, LeO (skywaykeep1_ProbeWider.f k a0 a1 a2 a3 a4) (skywaykeep1_ProbeWider.f (k + 1) a0 a1 a2 a3 a4) := by
  intro a0 a1 a2 a3 a4 k
  obtain ⟨ih0, ih1, ih2⟩ := skywaykeep1_ProbeWider.mono_l k
  unfold skywaykeep1_ProbeWider.f
  repeat' first
      | (with_reducible exact ih0 _ _ _)
      | (with_reducible exact ih1 _ _ _ _)
      | (with_reducible exact ih2 _ _ _ _ _ _ _ _ _ _)
      | (with_reducible exact probe_Pair.mono _ _ _ _ _)
      | (with_reducible exact skywaykeep1_long.mono _ _)
      | (with_reducible exact skywaykeep1_probeWorks.mono _)
      | (with_reducible exact tube_Widen.mono _ _ _ _)
      | (with_reducible exact LeO.refl _)
      | (with_reducible exact LeO.none _)
      | (with_reducible refine LeO.ite ?_ ?_)
      | (with_reducible refine LeO.bind ?_ (fun _ => ?_))
      | exact ih0 _ _ _
      | exact ih1 _ _ _ _
      | exact ih2 _ _ _ _ _ _ _ _ _ _
      | exact probe_Pair.mono _ _ _ _ _
      | exact skywaykeep1_long.mono _ _
      | exact skywaykeep1_probeWorks.mono _
      | exact tube_Widen.mono _ _ _ _
      | exact LeO.none _
      | refine LeO.ite ?_ ?_
      | refine LeO.bind ?_ (fun _ => ?_)
set_option maxHeartbeats 8000000 in
set_option maxRecDepth 100000 in
theorem skywaykeep1_ProbeWider.calls (k : Nat) (P0_ : Nat → Prop) (A0 : Option Addr) (c0 : Nat) (l0 : List (S102)) (P1_ : Nat → Prop) (A1 : Option Addr) (c1 : Nat) (l1 : List (S102)) (a2_0 : Int) (a2_1 : Int) (a3 : Int) (r : Bool) (w : World) (hs0 : Kd.V k102 102 w w.heap.size (fun k_ => P0_ k_) (.slice A0 l0.length c0) l0) (hs1 : Kd.V k102 102 w w.heap.size (fun k_ => P1_ k_) (.slice A1 l1.length c1) l1) (h : skywaykeep1_ProbeWider.f k l0 l1 a2_0 a2_1 a3 = some r) :
    Calls Try.prog 3 #[.slice A0 l0.length c0, .slice A1 l1.length c1, .agg #[.int .i64 a2_0, .int .i64 a2_1], .int .i64 a3] w fun e w' => e = .returned (.bool r) ∧ Below w.heap.size w w' := by
 have hu25 := Try.underlying25
 have hu35 := Try.underlying35
 have HO0 := Aside0.mk (show Kd.V k102 102 w w.heap.size (fun k_ => ((P0_ k_ ∨ P1_ k_) ∨ w.heap.size ≤ k_)) (.slice A0 l0.length c0) l0 from Kd.V_mono hs0 (fun k_ hk => .inl (.inl hk)))
 have HO1 := Aside0.mk (show Kd.V k102 102 w w.heap.size (fun k_ => ((P0_ k_ ∨ P1_ k_) ∨ w.heap.size ≤ k_)) (.slice A1 l1.length c1) l1 from Kd.V_mono hs1 (fun k_ hk => .inl (.inr hk)))
 have HB := Aside0.mk (Below.refl w.heap.size w)
 have H : ((skywaykeep1_probeWorks.f k).bind fun t293 => (if t293 = true then ((skywaykeep1_long.f k (([l0, l1] : List (List (S102))))).bind fun t297 => (if t297 = true then (some true) else ((tube_Widen.f k l0 (Int.tmod (wrap64 ((Int.tmod a3 500) + 500)) 500) (Int.tmod (wrap64 ((Int.tmod a3 500) + 500)) 500)).bind fun bt298 => ((probe_Pair.f k l0 l1 a2_0 a2_1).bind fun bt302 => ((probe_Pair.f k bt298.1 l1 a2_0 a2_1).bind fun bt306 => (if bt298.2 = 0 then (if bt302.2 = 0 then (skywaykeep1_ProbeWider.j0 k bt302.1 bt306.1 (bt306.2 != 0)) else (skywaykeep1_ProbeWider.j0 k bt302.1 bt306.1 true)) else (skywaykeep1_ProbeWider.j0 k bt302.1 bt306.1 true))))))) else (some false))) = some r := h
 clear h
 replace H := Option.bind_eq_some_iff.mp H
 obtain ⟨t293, A50, H⟩ := H
 replace H : (if t293 = true then ((skywaykeep1_long.f k (([l0, l1] : List (List (S102))))).bind fun t297 => (if t297 = true then (some true) else ((tube_Widen.f k l0 (Int.tmod (wrap64 ((Int.tmod a3 500) + 500)) 500) (Int.tmod (wrap64 ((Int.tmod a3 500) + 500)) 500)).bind fun bt298 => ((probe_Pair.f k l0 l1 a2_0 a2_1).bind fun bt302 => ((probe_Pair.f k bt298.1 l1 a2_0 a2_1).bind fun bt306 => (if bt298.2 = 0 then (if bt302.2 = 0 then (skywaykeep1_ProbeWider.j0 k bt302.1 bt306.1 (bt306.2 != 0)) else (skywaykeep1_ProbeWider.j0 k bt302.1 bt306.1 true)) else (skywaykeep1_ProbeWider.j0 k bt302.1 bt306.1 true))))))) else (some false)) = some r := H
 have A5 := Aside0.mk A50
 clear A50
 refine Or.elim (Classical.em (t293 = true)) (fun c6 => ?p2_) (fun c6 => ?n2_)
 case' p2_ =>
  subst c6
  have H1 : ((skywaykeep1_long.f k (([l0, l1] : List (List (S102))))).bind fun t297 => (if t297 = true then (some true) else ((tube_Widen.f k l0 (Int.tmod (wrap64 ((Int.tmod a3 500) + 500)) 500) (Int.tmod (wrap64 ((Int.tmod a3 500) + 500)) 500)).bind fun bt298 => ((probe_Pair.f k l0 l1 a2_0 a2_1).bind fun bt302 => ((probe_Pair.f k bt298.1 l1 a2_0 a2_1).bind fun bt306 => (if bt298.2 = 0 then (if bt302.2 = 0 then (skywaykeep1_ProbeWider.j0 k bt302.1 bt306.1 (bt306.2 != 0)) else (skywaykeep1_ProbeWider.j0 k bt302.1 bt306.1 true)) else (skywaykeep1_ProbeWider.j0 k bt302.1 bt306.1 true))))))) = some r := by rw [if_pos rfl] at H; exact H
  clear H
  have H := H1
  clear H1
  obtain ⟨y294, hy294⟩ : ∃ y_ : List (List (S102)), y_ = (([l0, l1] : List (List (S102)))) := ⟨_, rfl⟩
  replace H : ((skywaykeep1_long.f k y294).bind fun t297 => (if t297 = true then (some true) else ((tube_Widen.f k l0 (Int.tmod (wrap64 ((Int.tmod a3 500) + 500)) 500) (Int.tmod (wrap64 ((Int.tmod a3 500) + 500)) 500)).bind fun bt298 => ((probe_Pair.f k l0 l1 a2_0 a2_1).bind fun bt302 => ((probe_Pair.f k bt298.1 l1 a2_0 a2_1).bind fun bt306 => (if bt298.2 = 0 then (if bt302.2 = 0 then (skywaykeep1_ProbeWider.j0 k bt302.1 bt306.1 (bt306.2 != 0)) else (skywaykeep1_ProbeWider.j0 k bt302.1 bt306.1 true)) else (skywaykeep1_ProbeWider.j0 k bt302.1 bt306.1 true))))))) = some r := by first | (rw [hy294]; with_reducible exact H) | (have H2_ := (Option.bind_some _ _).symm.trans H; rw [hy294]; with_reducible exact H2_) | (have H2_ := (Option.bind_some _ _).symm.trans H; with_reducible exact H2_) | with_reducible exact H | (rw [hy294]; exact H) | exact H
  have Ny294 := Aside0.mk hy294
  clear hy294
  replace H := Option.bind_eq_some_iff.mp H
  obtain ⟨t297, A70, H⟩ := H
  replace H : (if t297 = true then (some true) else ((tube_Widen.f k l0 (Int.tmod (wrap64 ((Int.tmod a3 500) + 500)) 500) (Int.tmod (wrap64 ((Int.tmod a3 500) + 500)) 500)).bind fun bt298 => ((probe_Pair.f k l0 l1 a2_0 a2_1).bind fun bt302 => ((probe_Pair.f k bt298.1 l1 a2_0 a2_1).bind fun bt306 => (if bt298.2 = 0 then (if bt302.2 = 0 then (skywaykeep1_ProbeWider.j0 k bt302.1 bt306.1 (bt306.2 != 0)) else (skywaykeep1_ProbeWider.j0 k bt302.1 bt306.1 true)) else (skywaykeep1_ProbeWider.j0 k bt302.1 bt306.1 true)))))) = some r := H
  have A7 := Aside0.mk A70
  clear A70
  refine Or.elim (Classical.em (t297 = true)) (fun c8 => ?p3_) (fun c8 => ?n3_)
  case' p3_ =>
   subst c8
   have H1 : (some true) = some r := by rw [if_pos rfl] at H; exact H
   clear H
   have H := H1
   clear H1
   have hm1_0 := Aside0.mk trivial
  case' n3_ =>
   replace c8 := Bool.eq_false_iff.mpr c8
   subst c8
   have H1 : ((tube_Widen.f k l0 (Int.tmod (wrap64 ((Int.tmod a3 500) + 500)) 500) (Int.tmod (wrap64 ((Int.tmod a3 500) + 500)) 500)).bind fun bt298 => ((probe_Pair.f k l0 l1 a2_0 a2_1).bind fun bt302 => ((probe_Pair.f k bt298.1 l1 a2_0 a2_1).bind fun bt306 => (if bt298.2 = 0 then (if bt302.2 = 0 then (skywaykeep1_ProbeWider.j0 k bt302.1 bt306.1 (bt306.2 != 0)) else (skywaykeep1_ProbeWider.j0 k bt302.1 bt306.1 true)) else (skywaykeep1_ProbeWider.j0 k bt302.1 bt306.1 true))))) = some r := by rw [if_neg (show ¬ (false = true) by decide)] at H; exact H
   clear H
   have H := H1
   clear H1
   replace H := Option.bind_eq_some_iff.mp H
   obtain ⟨⟨t298, t299⟩, A150, H⟩ := H
   replace H : ((probe_Pair.f k l0 l1 a2_0 a2_1).bind fun bt302 => ((probe_Pair.f k t298 l1 a2_0 a2_1).bind fun bt306 => (if t299 = 0 then (if bt302.2 = 0 then (skywaykeep1_ProbeWider.j0 k bt302.1 bt306.1 (bt306.2 != 0)) else (skywaykeep1_ProbeWider.j0 k bt302.1 bt306.1 true)) else (skywaykeep1_ProbeWider.j0 k bt302.1 bt306.1 true)))) = some r := H
   have A15 := Aside0.mk A150
   clear A150
   replace H := Option.bind_eq_some_iff.mp H
   obtain ⟨⟨t302, t305⟩, A160, H⟩ := H
   replace H : ((probe_Pair.f k t298 l1 a2_0 a2_1).bind fun bt306 => (if t299 = 0 then (if t305 = 0 then (skywaykeep1_ProbeWider.j0 k t302 bt306.1 (bt306.2 != 0)) else (skywaykeep1_ProbeWider.j0 k t302 bt306.1 true)) else (skywaykeep1_ProbeWider.j0 k t302 bt306.1 true))) = some r := H
   have A16 := Aside0.mk A160
   clear A160
   replace H := Option.bind_eq_some_iff.mp H
   obtain ⟨⟨t306, t309⟩, A170, H⟩ := H
   replace H : (if t299 = 0 then (if t305 = 0 then (skywaykeep1_ProbeWider.j0 k t302 t306 (t309 != 0)) else (skywaykeep1_ProbeWider.j0 k t302 t306 true)) else (skywaykeep1_ProbeWider.j0 k t302 t306 true)) = some r := H
   have A17 := Aside0.mk A170
   clear A170
   have HC18 := Aside0.mk H
   clear H
   have hm1_1 := Aside0.mk trivial
 case' n2_ =>
  replace c6 := Bool.eq_false_iff.mpr c6
  subst c6
  have H1 : (some false) = some r := by rw [if_neg (show ¬ (false = true) by decide)] at H; exact H
  clear H
  have H := H1
  clear H1
  have hm1_0 := Aside0.mk trivial
 all_goals
  first
   | clear hm1_0
     obtain rfl := Option.some.inj H
     go_enter Try.func3, Try.ntmps3
     go_wp2_with (first | ((with_reducible refine gate_dst (N := 6) rfl ?_); refine box_event ?hg (N := 6) ?hd (cs := #[.int .i64 a2_0, .int .i64 a2_1]) (t := 25) ?hr ?_; (case hd => rfl); (case hg => rfl); (case hr => first | (go_simp; done) | (go_simp; rfl)); intro gb292 hg wx28841 hbox hb; have n0_ := Aside0.mk (Kd.V_below (Kd.V_elderB (by (with_reducible repeat (first | apply Kd.V_alloc | apply Kd.V_drewN | apply Kd.V_drew)); exact HO0.out) gb292 (Nat.le_of_eq hg.symm)) hb); have n1_ := Aside0.mk (Kd.V_below (Kd.V_elderB (by (with_reducible repeat (first | apply Kd.V_alloc | apply Kd.V_drewN | apply Kd.V_drew)); exact HO1.out) gb292 (Nat.le_of_eq hg.symm)) hb); have n2_ := Aside0.mk (below_step (by repeat (first | (with_reducible first | exact HB.out | apply below_alloc | apply pw_below_drewN | apply below_drew1) | exact HB.out)) hb); have n3_ := Aside0.mk (hbox); have n4_ := Aside0.mk ((by rw [hg]; exact (below_size (by repeat (first | (with_reducible first | exact HB.out | apply below_alloc | apply pw_below_drewN | apply below_drew1) | exact HB.out))) : w.heap.size ≤ gb292)); have n5_ := Aside0.mk ((by rw [hg]; exact (below_size (by repeat (first | (with_reducible first | exact HB.out | apply below_alloc | apply pw_below_drewN | apply below_drew1) | exact HB.out))) : w.heap.size ≤ gb292)); clear HO0; clear HO1; clear HB; have HO0 := n0_; have HO1 := n1_; have HB := n2_; have BK292 := n3_; have GW292 := n4_; have GE292 := n5_; clear n0_ n1_ n2_ n3_ n4_ n5_; clear hb hbox hg) | ((with_reducible refine gate_callee (f := 13) rfl ?_); refine goesL_ (some 24) rfl rfl Try.func13 (by kernel_rfl) rfl #[] rfl (by (try simp only [List.map_toArray, List.map_cons, List.map_nil]); first | done | rfl | (simp only [List.length_drop, List.length_take]; rfl)) ?_; (with_reducible refine (skywaykeep1_probeWorks.calls k  false _ A5.out).mono ?_); rintro e wxa9901 ⟨rfl, hb⟩; refine ⟨_, rfl, ?_⟩; have n0_ := Aside0.mk (Kd.V_below (by (with_reducible repeat (first | apply Kd.V_alloc | apply Kd.V_drewN | apply Kd.V_drew)); exact HO0.out) hb); have n1_ := Aside0.mk (Kd.V_below (by (with_reducible repeat (first | apply Kd.V_alloc | apply Kd.V_drewN | apply Kd.V_drew)); exact HO1.out) hb); have n2_ := Aside0.mk (blk_below (g := gb292) (o := .cells #[.int .i64 a2_0, .int .i64 a2_1] 25 (0, 0)) (by (with_reducible repeat (first | refine blk_drewN ?_ _ | refine blk_drew ?_ | refine blk_alloc ?_ _)); exact BK292.out) hb); have n3_ := Aside0.mk (below_step (by repeat (first | (with_reducible first | exact HB.out | apply below_alloc | apply pw_below_drewN | apply below_drew1 | refine below_set ?_ GE292.out) | exact HB.out)) hb); clear HO0; clear HO1; clear BK292; clear HB; have HO0 := n0_; have HO1 := n1_; have BK292 := n2_; have HB := n3_; clear n0_ n1_ n2_ n3_; (try clear hb); (try clear hb2); (try clear hk); (try clear hi)) | ((with_reducible refine gate_callee (f := 13) rfl ?_); refine goesL_ (some 24) rfl rfl Try.func13 (by kernel_rfl) rfl #[] rfl (by (try simp only [List.map_toArray, List.map_cons, List.map_nil]); first | done | rfl | (simp only [List.length_drop, List.length_take]; rfl)) ?_; (with_reducible refine (skywaykeep1_probeWorks.calls k  true _ A5.out).mono ?_); rintro e wxff931 ⟨rfl, hb⟩; refine ⟨_, rfl, ?_⟩; have n0_ := Aside0.mk (Kd.V_below (by (with_reducible repeat (first | apply Kd.V_alloc | apply Kd.V_drewN | apply Kd.V_drew)); exact HO0.out) hb); have n1_ := Aside0.mk (Kd.V_below (by (with_reducible repeat (first | apply Kd.V_alloc | apply Kd.V_drewN | apply Kd.V_drew)); exact HO1.out) hb); have n2_ := Aside0.mk (blk_below (g := gb292) (o := .cells #[.int .i64 a2_0, .int .i64 a2_1] 25 (0, 0)) (by (with_reducible repeat (first | refine blk_drewN ?_ _ | refine blk_drew ?_ | refine blk_alloc ?_ _)); exact BK292.out) hb); have n3_ := Aside0.mk (below_step (by repeat (first | (with_reducible first | exact HB.out | apply below_alloc | apply pw_below_drewN | apply below_drew1 | refine below_set ?_ GE292.out) | exact HB.out)) hb); clear HO0; clear HO1; clear BK292; clear HB; have HO0 := n0_; have HO1 := n1_; have BK292 := n2_; have HB := n3_; clear n0_ n1_ n2_ n3_; (try clear hb); (try clear hb2); (try clear hk); (try clear hi)) | ((with_reducible refine gate_dst (N := 28) rfl ?_); refine Kd.N_lit (Kd.slice 102 k102) _ 23 ?hg (N' := 28) ?hd (xs := ([l0, l1] : List (List (S102)))) (inner := [.slice A0 l0.length c0, .slice A1 l1.length c1]) (ok := (fun k_ => ((P0_ k_ ∨ P1_ k_) ∨ w.heap.size ≤ k_) ∧ k_ ≠ gb292)) (okp := (fun k_ => ((P0_ k_ ∨ P1_ k_) ∨ w.heap.size ≤ k_) ∧ k_ ≠ gb292)) ?hr ?hp (fun _ hk => hk) ((show ∀ k_, wxff931.heap.size ≤ k_ → (fun k_ => ((P0_ k_ ∨ P1_ k_) ∨ w.heap.size ≤ k_) ∧ k_ ≠ gb292) k_ from fun k_ hk => ⟨(.inr (Nat.le_trans (below_size (by repeat (first | (with_reducible first | exact HB.out | apply below_alloc | apply pw_below_drewN | apply below_drew1 | refine below_set ?_ GE292.out) | exact HB.out))) hk)), Kd.freshB (g := gb292) (o := .cells #[.int .i64 a2_0, .int .i64 a2_1] 25 (0, 0)) (by (with_reducible repeat (first | refine blk_drewN ?_ _ | refine blk_drew ?_ | refine blk_alloc ?_ _)); exact BK292.out) k_ hk⟩) _ (Nat.le_refl _)) (Below.refl _ _) (Nat.le_refl _) (by simp) ?_; (case hd => rfl); (case hg => rfl); (case hr => first | (go_simp; done) | (go_simp; rfl)); (case hp => exact (Reps.one (show Kd.FK (Kd.slice 102 k102) _ _ l0 [.slice A0 l0.length c0] from (Kd.FK_slice_mk (Kd.V_reads' (Kd.V_mono (ok' := (fun k_ => ((P0_ k_ ∨ P1_ k_) ∨ w.heap.size ≤ k_) ∧ k_ ≠ gb292)) (HO0.out) (fun k_ hk => ⟨hk.1, hk.2⟩))).2.1 (Kd.V_F (Kd.V_mono (ok' := (fun k_ => ((P0_ k_ ∨ P1_ k_) ∨ w.heap.size ≤ k_) ∧ k_ ≠ gb292)) (HO0.out) (fun k_ hk => ⟨hk.1, hk.2⟩))))) (Reps.one (show Kd.FK (Kd.slice 102 k102) _ _ l1 [.slice A1 l1.length c1] from (Kd.FK_slice_mk (Kd.V_reads' (Kd.V_mono (ok' := (fun k_ => ((P0_ k_ ∨ P1_ k_) ∨ w.heap.size ≤ k_) ∧ k_ ≠ gb292)) (HO1.out) (fun k_ hk => ⟨hk.1, hk.2⟩))).2.1 (Kd.V_F (Kd.V_mono (ok' := (fun k_ => ((P0_ k_ ∨ P1_ k_) ∨ w.heap.size ≤ k_) ∧ k_ ≠ gb292)) (HO1.out) (fun k_ hk => ⟨hk.1, hk.2⟩))))) (Reps.none _ _)))); intro v295 wx292b1 hox292b1 hb hg_ hnew_; clear hg_ hnew_; (first | rw [← Ny294.out] at hox292b1 | (simp only [Int.reduceToNat] at hox292b1; rw [← Ny294.out] at hox292b1)); have n0_ := Aside0.mk (Kd.V_elder' (by (with_reducible repeat (first | apply Kd.V_alloc | apply Kd.V_drewN | apply Kd.V_drew)); exact HO0.out) (Kd.N_base hox292b1) hb); have n1_ := Aside0.mk (Kd.V_elder' (by (with_reducible repeat (first | apply Kd.V_alloc | apply Kd.V_drewN | apply Kd.V_drew)); exact HO1.out) (Kd.N_base hox292b1) hb); have n2_ := Aside0.mk (Kd.N_lower hox292b1 (below_size (by repeat (first | (with_reducible first | exact HB.out | apply below_alloc | apply pw_below_drewN | apply below_drew1 | refine below_set ?_ GE292.out) | exact HB.out)))); have n3_ := Aside0.mk (blk_below (g := gb292) (o := .cells #[.int .i64 a2_0, .int .i64 a2_1] 25 (0, 0)) (by (with_reducible repeat (first | refine blk_drewN ?_ _ | refine blk_drew ?_ | refine blk_alloc ?_ _)); exact BK292.out) hb); have n4_ := Aside0.mk (below_step (by repeat (first | (with_reducible first | exact HB.out | apply below_alloc | apply pw_below_drewN | apply below_drew1 | refine below_set ?_ GE292.out) | exact HB.out)) hb); clear HO0; clear HO1; clear BK292; clear HB; have HO0 := n0_; have HO1 := n1_; have HO296 := n2_; have BK292 := n3_; have HB := n4_; clear n0_ n1_ n2_ n3_ n4_; clear hb hox292b1; obtain ⟨Aox292b1, cox292b1, eox292b1⟩ := Kd.N_slice HO296.out; subst eox292b1) | ((with_reducible refine gate_callee (f := 14) rfl ?_); refine goesL_ (some 29) rfl rfl Try.func14 (by kernel_rfl) rfl #[.slice Aox292b1 y294.length cox292b1] rfl (by (try simp only [List.map_toArray, List.map_cons, List.map_nil]); first | done | rfl | (simp only [List.length_drop, List.length_take]; rfl)) ?_; (with_reducible refine (skywaykeep1_long.calls k _ _ y294 true _ ?side1 ?side2 A7.out).mono ?_); (case side1 => repeat (first | exact (Kd.N_reads' HO296.out).2.2 | (with_reducible refine Kd.C_alloc ?_ _) | (with_reducible refine Kd.C_drewN ?_ _) | (with_reducible refine Kd.C_drew ?_))); (case side2 => exact (Kd.N_reads' HO296.out).2.1); rintro e wxce8b1 ⟨rfl, hb⟩; refine ⟨_, rfl, ?_⟩; have n0_ := Aside0.mk (Kd.V_below (by (with_reducible repeat (first | apply Kd.V_alloc | apply Kd.V_drewN | apply Kd.V_drew)); exact HO0.out) hb); have n1_ := Aside0.mk (Kd.V_below (by (with_reducible repeat (first | apply Kd.V_alloc | apply Kd.V_drewN | apply Kd.V_drew)); exact HO1.out) hb); have n2_ := Aside0.mk (Kd.N_below (by (with_reducible repeat (first | apply Kd.N_alloc | apply Kd.N_drewN | apply Kd.N_drew)); exact HO296.out) hb); have n3_ := Aside0.mk (blk_below (g := gb292) (o := .cells #[.int .i64 a2_0, .int .i64 a2_1] 25 (0, 0)) (by (with_reducible repeat (first | refine blk_drewN ?_ _ | refine blk_drew ?_ | refine blk_alloc ?_ _)); exact BK292.out) hb); have n4_ := Aside0.mk (below_step (by repeat (first | (with_reducible first | exact HB.out | apply below_alloc | apply pw_below_drewN | apply below_drew1 | refine below_set ?_ GE292.out) | exact HB.out)) hb); clear HO0; clear HO1; clear HO296; clear BK292; clear HB; have HO0 := n0_; have HO1 := n1_; have HO296 := n2_; have BK292 := n3_; have HB := n4_; clear n0_ n1_ n2_ n3_ n4_; (try clear hb); (try clear hb2); (try clear hk); (try clear hi)))
     go_ret
     exact ⟨by first | rfl | (simp [errW_none, errW_some] <;> rfl) | (simp [*, errW_none, errW_some] <;> rfl), by repeat (first | (with_reducible first | exact HB.out | apply below_alloc | apply pw_below_drewN | apply below_drew1 | refine below_set ?_ GE292.out) | exact HB.out)⟩
   | clear hm1_1
     go_enter Try.func3, Try.ntmps3
     go_upto_region 9 with (first | ((with_reducible refine gate_dst (N := 6) rfl ?_); refine box_event ?hg (N := 6) ?hd (cs := #[.int .i64 a2_0, .int .i64 a2_1]) (t := 25) ?hr ?_; (case hd => rfl); (case hg => rfl); (case hr => first | (go_simp; done) | (go_simp; rfl)); intro gb292 hg wx28841 hbox hb; have n0_ := Aside0.mk (Kd.V_below (Kd.V_elderB (by (with_reducible repeat (first | apply Kd.V_alloc | apply Kd.V_drewN | apply Kd.V_drew)); exact HO0.out) gb292 (Nat.le_of_eq hg.symm)) hb); have n1_ := Aside0.mk (Kd.V_below (Kd.V_elderB (by (with_reducible repeat (first | apply Kd.V_alloc | apply Kd.V_drewN | apply Kd.V_drew)); exact HO1.out) gb292 (Nat.le_of_eq hg.symm)) hb); have n2_ := Aside0.mk (below_step (by repeat (first | (with_reducible first | exact HB.out | apply below_alloc | apply pw_below_drewN | apply below_drew1) | exact HB.out)) hb); have n3_ := Aside0.mk (hbox); have n4_ := Aside0.mk ((by rw [hg]; exact (below_size (by repeat (first | (with_reducible first | exact HB.out | apply below_alloc | apply pw_below_drewN | apply below_drew1) | exact HB.out))) : w.heap.size ≤ gb292)); have n5_ := Aside0.mk ((by rw [hg]; exact (below_size (by repeat (first | (with_reducible first | exact HB.out | apply below_alloc | apply pw_below_drewN | apply below_drew1) | exact HB.out))) : w.heap.size ≤ gb292)); clear HO0; clear HO1; clear HB; have HO0 := n0_; have HO1 := n1_; have HB := n2_; have BK292 := n3_; have GW292 := n4_; have GE292 := n5_; clear n0_ n1_ n2_ n3_ n4_ n5_; clear hb hbox hg) | ((with_reducible refine gate_callee (f := 13) rfl ?_); refine goesL_ (some 24) rfl rfl Try.func13 (by kernel_rfl) rfl #[] rfl (by (try simp only [List.map_toArray, List.map_cons, List.map_nil]); first | done | rfl | (simp only [List.length_drop, List.length_take]; rfl)) ?_; (with_reducible refine (skywaykeep1_probeWorks.calls k  true _ A5.out).mono ?_); rintro e wxff931 ⟨rfl, hb⟩; refine ⟨_, rfl, ?_⟩; have n0_ := Aside0.mk (Kd.V_below (by (with_reducible repeat (first | apply Kd.V_alloc | apply Kd.V_drewN | apply Kd.V_drew)); exact HO0.out) hb); have n1_ := Aside0.mk (Kd.V_below (by (with_reducible repeat (first | apply Kd.V_alloc | apply Kd.V_drewN | apply Kd.V_drew)); exact HO1.out) hb); have n2_ := Aside0.mk (blk_below (g := gb292) (o := .cells #[.int .i64 a2_0, .int .i64 a2_1] 25 (0, 0)) (by (with_reducible repeat (first | refine blk_drewN ?_ _ | refine blk_drew ?_ | refine blk_alloc ?_ _)); exact BK292.out) hb); have n3_ := Aside0.mk (below_step (by repeat (first | (with_reducible first | exact HB.out | apply below_alloc | apply pw_below_drewN | apply below_drew1 | refine below_set ?_ GE292.out) | exact HB.out)) hb); clear HO0; clear HO1; clear BK292; clear HB; have HO0 := n0_; have HO1 := n1_; have BK292 := n2_; have HB := n3_; clear n0_ n1_ n2_ n3_; (try clear hb); (try clear hb2); (try clear hk); (try clear hi)) | ((with_reducible refine gate_dst (N := 28) rfl ?_); refine Kd.N_lit (Kd.slice 102 k102) _ 23 ?hg (N' := 28) ?hd (xs := ([l0, l1] : List (List (S102)))) (inner := [.slice A0 l0.length c0, .slice A1 l1.length c1]) (ok := (fun k_ => ((P0_ k_ ∨ P1_ k_) ∨ w.heap.size ≤ k_) ∧ k_ ≠ gb292)) (okp := (fun k_ => ((P0_ k_ ∨ P1_ k_) ∨ w.heap.size ≤ k_) ∧ k_ ≠ gb292)) ?hr ?hp (fun _ hk => hk) ((show ∀ k_, wxff931.heap.size ≤ k_ → (fun k_ => ((P0_ k_ ∨ P1_ k_) ∨ w.heap.size ≤ k_) ∧ k_ ≠ gb292) k_ from fun k_ hk => ⟨(.inr (Nat.le_trans (below_size (by repeat (first | (with_reducible first | exact HB.out | apply below_alloc | apply pw_below_drewN | apply below_drew1 | refine below_set ?_ GE292.out) | exact HB.out))) hk)), Kd.freshB (g := gb292) (o := .cells #[.int .i64 a2_0, .int .i64 a2_1] 25 (0, 0)) (by (with_reducible repeat (first | refine blk_drewN ?_ _ | refine blk_drew ?_ | refine blk_alloc ?_ _)); exact BK292.out) k_ hk⟩) _ (Nat.le_refl _)) (Below.refl _ _) (Nat.le_refl _) (by simp) ?_; (case hd => rfl); (case hg => rfl); (case hr => first | (go_simp; done) | (go_simp; rfl)); (case hp => exact (Reps.one (show Kd.FK (Kd.slice 102 k102) _ _ l0 [.slice A0 l0.length c0] from (Kd.FK_slice_mk (Kd.V_reads' (Kd.V_mono (ok' := (fun k_ => ((P0_ k_ ∨ P1_ k_) ∨ w.heap.size ≤ k_) ∧ k_ ≠ gb292)) (HO0.out) (fun k_ hk => ⟨hk.1, hk.2⟩))).2.1 (Kd.V_F (Kd.V_mono (ok' := (fun k_ => ((P0_ k_ ∨ P1_ k_) ∨ w.heap.size ≤ k_) ∧ k_ ≠ gb292)) (HO0.out) (fun k_ hk => ⟨hk.1, hk.2⟩))))) (Reps.one (show Kd.FK (Kd.slice 102 k102) _ _ l1 [.slice A1 l1.length c1] from (Kd.FK_slice_mk (Kd.V_reads' (Kd.V_mono (ok' := (fun k_ => ((P0_ k_ ∨ P1_ k_) ∨ w.heap.size ≤ k_) ∧ k_ ≠ gb292)) (HO1.out) (fun k_ hk => ⟨hk.1, hk.2⟩))).2.1 (Kd.V_F (Kd.V_mono (ok' := (fun k_ => ((P0_ k_ ∨ P1_ k_) ∨ w.heap.size ≤ k_) ∧ k_ ≠ gb292)) (HO1.out) (fun k_ hk => ⟨hk.1, hk.2⟩))))) (Reps.none _ _)))); intro v295 wx292b1 hox292b1 hb hg_ hnew_; clear hg_ hnew_; (first | rw [← Ny294.out] at hox292b1 | (simp only [Int.reduceToNat] at hox292b1; rw [← Ny294.out] at hox292b1)); have n0_ := Aside0.mk (Kd.V_elder' (by (with_reducible repeat (first | apply Kd.V_alloc | apply Kd.V_drewN | apply Kd.V_drew)); exact HO0.out) (Kd.N_base hox292b1) hb); have n1_ := Aside0.mk (Kd.V_elder' (by (with_reducible repeat (first | apply Kd.V_alloc | apply Kd.V_drewN | apply Kd.V_drew)); exact HO1.out) (Kd.N_base hox292b1) hb); have n2_ := Aside0.mk (Kd.N_lower hox292b1 (below_size (by repeat (first | (with_reducible first | exact HB.out | apply below_alloc | apply pw_below_drewN | apply below_drew1 | refine below_set ?_ GE292.out) | exact HB.out)))); have n3_ := Aside0.mk (blk_below (g := gb292) (o := .cells #[.int .i64 a2_0, .int .i64 a2_1] 25 (0, 0)) (by (with_reducible repeat (first | refine blk_drewN ?_ _ | refine blk_drew ?_ | refine blk_alloc ?_ _)); exact BK292.out) hb); have n4_ := Aside0.mk (below_step (by repeat (first | (with_reducible first | exact HB.out | apply below_alloc | apply pw_below_drewN | apply below_drew1 | refine below_set ?_ GE292.out) | exact HB.out)) hb); clear HO0; clear HO1; clear BK292; clear HB; have HO0 := n0_; have HO1 := n1_; have HO296 := n2_; have BK292 := n3_; have HB := n4_; clear n0_ n1_ n2_ n3_ n4_; clear hb hox292b1; obtain ⟨Aox292b1, cox292b1, eox292b1⟩ := Kd.N_slice HO296.out; subst eox292b1) | ((with_reducible refine gate_callee (f := 14) rfl ?_); refine goesL_ (some 29) rfl rfl Try.func14 (by kernel_rfl) rfl #[.slice Aox292b1 y294.length cox292b1] rfl (by (try simp only [List.map_toArray, List.map_cons, List.map_nil]); first | done | rfl | (simp only [List.length_drop, List.length_take]; rfl)) ?_; (with_reducible refine (skywaykeep1_long.calls k _ _ y294 false _ ?side1 ?side2 A7.out).mono ?_); (case side1 => repeat (first | exact (Kd.N_reads' HO296.out).2.2 | (with_reducible refine Kd.C_alloc ?_ _) | (with_reducible refine Kd.C_drewN ?_ _) | (with_reducible refine Kd.C_drew ?_))); (case side2 => exact (Kd.N_reads' HO296.out).2.1); rintro e wx2d791 ⟨rfl, hb⟩; refine ⟨_, rfl, ?_⟩; have n0_ := Aside0.mk (Kd.V_below (by (with_reducible repeat (first | apply Kd.V_alloc | apply Kd.V_drewN | apply Kd.V_drew)); exact HO0.out) hb); have n1_ := Aside0.mk (Kd.V_below (by (with_reducible repeat (first | apply Kd.V_alloc | apply Kd.V_drewN | apply Kd.V_drew)); exact HO1.out) hb); have n2_ := Aside0.mk (Kd.N_below (by (with_reducible repeat (first | apply Kd.N_alloc | apply Kd.N_drewN | apply Kd.N_drew)); exact HO296.out) hb); have n3_ := Aside0.mk (blk_below (g := gb292) (o := .cells #[.int .i64 a2_0, .int .i64 a2_1] 25 (0, 0)) (by (with_reducible repeat (first | refine blk_drewN ?_ _ | refine blk_drew ?_ | refine blk_alloc ?_ _)); exact BK292.out) hb); have n4_ := Aside0.mk (below_step (by repeat (first | (with_reducible first | exact HB.out | apply below_alloc | apply pw_below_drewN | apply below_drew1 | refine below_set ?_ GE292.out) | exact HB.out)) hb); clear HO0; clear HO1; clear HO296; clear BK292; clear HB; have HO0 := n0_; have HO1 := n1_; have HO296 := n2_; have BK292 := n3_; have HB := n4_; clear n0_ n1_ n2_ n3_ n4_; (try clear hb); (try clear hb2); (try clear hk); (try clear hi)) | ((with_reducible refine gate_callee (f := 15) rfl ?_); refine goesL_ (some 34) rfl rfl Try.func15 (by kernel_rfl) rfl #[.slice A0 l0.length c0, .int .i64 (Int.tmod (wrap64 ((Int.tmod a3 500) + 500)) 500), .int .i64 (Int.tmod (wrap64 ((Int.tmod a3 500) + 500)) 500)] rfl (by (try simp only [List.map_toArray, List.map_cons, List.map_nil]); first | done | rfl | (simp only [List.length_drop, List.length_take]; rfl)) ?_; (with_reducible refine (tube_Widen.calls k _ _ l0 (Int.tmod (wrap64 ((Int.tmod a3 500) + 500)) 500) (Int.tmod (wrap64 ((Int.tmod a3 500) + 500)) 500) t298 t299 _ ?side1 ?side2 A15.out).mono ?_); (case side1 => repeat (first | exact (Kd.V_reads' HO0.out).2.2 | (with_reducible refine Kd.C_alloc ?_ _) | (with_reducible refine Kd.C_drewN ?_ _) | (with_reducible refine Kd.C_drew ?_))); (case side2 => exact (Kd.V_reads' HO0.out).2.1); rintro e wxa90f1 ⟨v300, rfl, hoxa90f1, hb⟩; refine ⟨_, rfl, ?_⟩; have n0_ := Aside0.mk (Kd.V_elder' (by (with_reducible repeat (first | apply Kd.V_alloc | apply Kd.V_drewN | apply Kd.V_drew)); exact HO0.out) (Kd.R_base hoxa90f1) hb); have n1_ := Aside0.mk (Kd.V_elder' (by (with_reducible repeat (first | apply Kd.V_alloc | apply Kd.V_drewN | apply Kd.V_drew)); exact HO1.out) (Kd.R_base hoxa90f1) hb); have n2_ := Aside0.mk (Kd.N_elder' (by (with_reducible repeat (first | apply Kd.N_alloc | apply Kd.N_drewN | apply Kd.N_drew)); exact HO296.out) (Kd.R_base hoxa90f1) hb); have n3_ := Aside0.mk (Kd.R_lower (Kd.R_newM (M := fun k_ => (w.heap.size ≤ k_)) hoxa90f1 (below_size (by repeat (first | (with_reducible first | exact HB.out | apply below_alloc | apply pw_below_drewN | apply below_drew1 | refine below_set ?_ GE292.out) | exact HB.out))) (fun k_ h_ => h_)) (below_size (by repeat (first | (with_reducible first | exact HB.out | apply below_alloc | apply pw_below_drewN | apply below_drew1 | refine below_set ?_ GE292.out) | exact HB.out)))); have n4_ := Aside0.mk (blk_below (g := gb292) (o := .cells #[.int .i64 a2_0, .int .i64 a2_1] 25 (0, 0)) (by (with_reducible repeat (first | refine blk_drewN ?_ _ | refine blk_drew ?_ | refine blk_alloc ?_ _)); exact BK292.out) hb); have n5_ := Aside0.mk (below_step (by repeat (first | (with_reducible first | exact HB.out | apply below_alloc | apply pw_below_drewN | apply below_drew1 | refine below_set ?_ GE292.out) | exact HB.out)) hb); clear HO0; clear HO1; clear HO296; clear BK292; clear HB; have HO0 := n0_; have HO1 := n1_; have HO296 := n2_; have HO301 := n3_; have BK292 := n4_; have HB := n5_; clear n0_ n1_ n2_ n3_ n4_ n5_; (try clear hb); (try clear hb2); (try clear hk); (try clear hi); (try clear hoxa90f1); have hczxa90f1 : wxa90f1.cell? ⟨gb292, 0, none⟩ = some (.int .i64 a2_0) := (blk_cell BK292.out 0).trans rfl; have hczxa90f2 : wxa90f1.cell? ⟨gb292, 1, none⟩ = some (.int .i64 a2_1) := (blk_cell BK292.out 1).trans rfl; have hfzxa90f1 := blk_frozen BK292.out 0; have hfzxa90f2 := blk_frozen BK292.out 1) | ((with_reducible refine gate_callee (f := 16) rfl ?_); refine goesL_ (some 41) rfl rfl Try.func16 (by kernel_rfl) rfl #[.slice A0 l0.length c0, .slice A1 l1.length c1, .agg #[.int .i64 a2_0, .int .i64 a2_1]] rfl (by (try simp only [List.map_toArray, List.map_cons, List.map_nil]); first | done | rfl | (simp only [List.length_drop, List.length_take]; rfl)) ?_; (with_reducible refine (probe_Pair.calls k (fun k_ => (((((P0_ k_ ∨ P1_ k_) ∨ w.heap.size ≤ k_) ∧ k_ ≠ gb292) ∧ some k_ ≠ (.slice Aox292b1 y294.length cox292b1 : Value).ownBlock) ∧ some k_ ≠ (v300 : Value).ownBlock)) _ _ l0 (fun k_ => (((((P0_ k_ ∨ P1_ k_) ∨ w.heap.size ≤ k_) ∧ k_ ≠ gb292) ∧ some k_ ≠ (.slice Aox292b1 y294.length cox292b1 : Value).ownBlock) ∧ some k_ ≠ (v300 : Value).ownBlock)) _ _ l1 a2_0 a2_1 t302 t305 _ ?side1 ?side2 A16.out).mono ?_); (case side1 => exact HO0.out); (case side2 => exact HO1.out); rintro e wx76171 ⟨v303, rfl, hoxa90f1, hb⟩; refine ⟨_, rfl, ?_⟩; have n0_ := Aside0.mk (Kd.V_elder' (by (with_reducible repeat (first | apply Kd.V_alloc | apply Kd.V_drewN | apply Kd.V_drew)); exact HO0.out) (Kd.R_base hoxa90f1) hb); have n1_ := Aside0.mk (Kd.V_elder' (by (with_reducible repeat (first | apply Kd.V_alloc | apply Kd.V_drewN | apply Kd.V_drew)); exact HO1.out) (Kd.R_base hoxa90f1) hb); have n2_ := Aside0.mk (Kd.N_elder' (by (with_reducible repeat (first | apply Kd.N_alloc | apply Kd.N_drewN | apply Kd.N_drew)); exact HO296.out) (Kd.R_base hoxa90f1) hb); have n3_ := Aside0.mk (Kd.R_below (by (with_reducible repeat (first | apply Kd.R_alloc | apply Kd.R_drewN | apply Kd.R_drew)); exact HO301.out) hb); have n4_ := Aside0.mk (Kd.R_lower (Kd.R_newM (M := fun k_ => (w.heap.size ≤ k_)) (Kd.R_mono (ok' := fun k_ => True) hoxa90f1 (fun _ hk_ => trivial)) (below_size (by repeat (first | (with_reducible first | exact HB.out | apply below_alloc | apply pw_below_drewN | apply below_drew1 | refine below_set ?_ GE292.out) | exact HB.out))) (fun k_ h_ => h_)) (below_size (by repeat (first | (with_reducible first | exact HB.out | apply below_alloc | apply pw_below_drewN | apply below_drew1 | refine below_set ?_ GE292.out) | exact HB.out)))); have n5_ := Aside0.mk (blk_below (g := gb292) (o := .cells #[.int .i64 a2_0, .int .i64 a2_1] 25 (0, 0)) (by (with_reducible repeat (first | refine blk_drewN ?_ _ | refine blk_drew ?_ | refine blk_alloc ?_ _)); exact BK292.out) hb); have n6_ := Aside0.mk (below_step (by repeat (first | (with_reducible first | exact HB.out | apply below_alloc | apply pw_below_drewN | apply below_drew1 | refine below_set ?_ GE292.out) | exact HB.out)) hb); clear HO0; clear HO1; clear HO296; clear HO301; clear BK292; clear HB; have HO0 := n0_; have HO1 := n1_; have HO296 := n2_; have HO301 := n3_; have HO304 := n4_; have BK292 := n5_; have HB := n6_; clear n0_ n1_ n2_ n3_ n4_ n5_ n6_; (try clear hb); (try clear hb2); (try clear hk); (try clear hi); (try clear hoxa90f1); have hczx76171 : wx76171.cell? ⟨gb292, 0, none⟩ = some (.int .i64 a2_0) := (blk_cell BK292.out 0).trans rfl; have hczx76172 : wx76171.cell? ⟨gb292, 1, none⟩ = some (.int .i64 a2_1) := (blk_cell BK292.out 1).trans rfl; have hfzx76171 := blk_frozen BK292.out 0; have hfzx76172 := blk_frozen BK292.out 1; obtain ⟨Aox76171, cox76171, eox76171⟩ := Kd.R_slice HO301.out; subst eox76171) | ((with_reducible refine gate_callee (f := 16) rfl ?_); refine goesL_ (some 48) rfl rfl Try.func16 (by kernel_rfl) rfl #[.slice Aox76171 t298.length cox76171, .slice A1 l1.length c1, .agg #[.int .i64 a2_0, .int .i64 a2_1]] rfl (by (try simp only [List.map_toArray, List.map_cons, List.map_nil]); first | done | rfl | (simp only [List.length_drop, List.length_take]; rfl)) ?_; (with_reducible refine (probe_Pair.calls k (fun k_ => some k_ = (.slice Aox76171 t298.length cox76171 : Value).ownBlock) _ _ t298 (fun k_ => ((((((P0_ k_ ∨ P1_ k_) ∨ w.heap.size ≤ k_) ∧ k_ ≠ gb292) ∧ some k_ ≠ (.slice Aox292b1 y294.length cox292b1 : Value).ownBlock) ∧ some k_ ≠ (.slice Aox76171 t298.length cox76171 : Value).ownBlock) ∧ some k_ ≠ (v303 : Value).ownBlock)) _ _ l1 a2_0 a2_1 t306 t309 _ ?side1 ?side2 A17.out).mono ?_); (case side1 => exact Kd.R_V (Kd.R_tight rfl (Kd.R_types (Kd.R_apart' (Kd.R_apart' (HO301.out) (Kd.N_typed HO296.out) (by decide)) (Kd.R_typed HO304.out) (by decide)) BK292.out (by decide)))); (case side2 => exact HO1.out); rintro e wx46151 ⟨v307, rfl, hoxa90f1, hb⟩; refine ⟨_, rfl, ?_⟩; have n0_ := Aside0.mk (Kd.V_elder' (by (with_reducible repeat (first | apply Kd.V_alloc | apply Kd.V_drewN | apply Kd.V_drew)); exact HO0.out) (Kd.R_base hoxa90f1) hb); have n1_ := Aside0.mk (Kd.V_elder' (by (with_reducible repeat (first | apply Kd.V_alloc | apply Kd.V_drewN | apply Kd.V_drew)); exact HO1.out) (Kd.R_base hoxa90f1) hb); have n2_ := Aside0.mk (Kd.N_elder' (by (with_reducible repeat (first | apply Kd.N_alloc | apply Kd.N_drewN | apply Kd.N_drew)); exact HO296.out) (Kd.R_base hoxa90f1) hb); have n3_ := Aside0.mk (Kd.R_below (by (with_reducible repeat (first | apply Kd.R_alloc | apply Kd.R_drewN | apply Kd.R_drew)); exact HO301.out) hb); have n4_ := Aside0.mk (Kd.R_elder' (by (with_reducible repeat (first | apply Kd.R_alloc | apply Kd.R_drewN | apply Kd.R_drew)); exact HO304.out) (Kd.R_base hoxa90f1) hb); have n5_ := Aside0.mk (Kd.R_lower (Kd.R_new' (Kd.R_newM (M := fun k_ => (w.heap.size ≤ k_)) (Kd.R_mono (ok' := fun k_ => True) hoxa90f1 (fun _ hk_ => trivial)) (below_size (by repeat (first | (with_reducible first | exact HB.out | apply below_alloc | apply pw_below_drewN | apply below_drew1 | refine below_set ?_ GE292.out) | exact HB.out))) (fun k_ h_ => h_)) (Kd.R_lt (by (with_reducible repeat (first | apply Kd.R_alloc | apply Kd.R_drewN | apply Kd.R_drew)); exact HO304.out))) (below_size (by repeat (first | (with_reducible first | exact HB.out | apply below_alloc | apply pw_below_drewN | apply below_drew1 | refine below_set ?_ GE292.out) | exact HB.out)))); have n6_ := Aside0.mk (blk_below (g := gb292) (o := .cells #[.int .i64 a2_0, .int .i64 a2_1] 25 (0, 0)) (by (with_reducible repeat (first | refine blk_drewN ?_ _ | refine blk_drew ?_ | refine blk_alloc ?_ _)); exact BK292.out) hb); have n7_ := Aside0.mk (below_step (by repeat (first | (with_reducible first | exact HB.out | apply below_alloc | apply pw_below_drewN | apply below_drew1 | refine below_set ?_ GE292.out) | exact HB.out)) hb); clear HO0; clear HO1; clear HO296; clear HO301; clear HO304; clear BK292; clear HB; have HO0 := n0_; have HO1 := n1_; have HO296 := n2_; have HO301 := n3_; have HO304 := n4_; have HO308 := n5_; have BK292 := n6_; have HB := n7_; clear n0_ n1_ n2_ n3_ n4_ n5_ n6_ n7_; (try clear hb); (try clear hb2); (try clear hk); (try clear hi); (try clear hoxa90f1)))
     (try simp only [Act.put, List.setIfInBounds_toArray, List.set_cons_zero, List.set_cons_succ])
     go_cut [60] (fun v60 wc => ∃ (kq : Nat) (x60_17 : Bool), v60 = .bool x60_17 ∧ Aside0 (skywaykeep1_ProbeWider.j0 kq t302 t306 x60_17 = some r) ∧ Aside0 (kq ≤ k) ∧ Aside0 (Kd.R k35 35 wc w.heap.size (fun k_ => (w.heap.size ≤ k_) ∧ some k_ ≠ (v307 : Value).ownBlock) v303 t302) ∧ Aside0 (Kd.R k35 35 wc w.heap.size (fun k_ => (w.heap.size ≤ k_) ∧ some k_ ≠ (v303 : Value).ownBlock) v307 t306) ∧ Aside0 (wc.heap[gb292]? = some (.cells #[.int .i64 a2_0, .int .i64 a2_1] 25 (0, 0))) ∧ Aside0 (Below w.heap.size w wc))
     case first =>
      have H := HC18.out
      clear HC18
      refine Or.elim (Classical.em (t299 = 0)) (fun c31 => ?p5_) (fun c31 => ?n5_)
      case' p5_ =>
       rw [if_pos c31] at H
       have c31b0 : (t299 == 0) = true := beq_iff_eq.mpr c31
       have c31b1 : (t299 != 0) = false := bne_eq_false_iff_eq.mpr c31
       clear c31
       (first | rw [c31b0] | (simp only [i64_w, i32_w]; rw [c31b0]) | skip)
       refine Or.elim (Classical.em (t305 = 0)) (fun c32 => ?p6_) (fun c32 => ?n6_)
       case' p6_ =>
        rw [if_pos c32] at H
        have c32b0 : (t305 == 0) = true := beq_iff_eq.mpr c32
        have c32b1 : (t305 != 0) = false := bne_eq_false_iff_eq.mpr c32
        clear c32
       case' n6_ =>
        rw [if_neg c32] at H
        have c32b0 : (t305 == 0) = false := beq_eq_false_iff_ne.mpr c32
        have c32b1 : (t305 != 0) = true := bne_iff_ne.mpr c32
      case' n5_ =>
       rw [if_neg c31] at H
       have c31b0 : (t299 == 0) = false := beq_eq_false_iff_ne.mpr c31
       have c31b1 : (t299 != 0) = true := bne_iff_ne.mpr c31
       (first | rw [c31b0] | (simp only [i64_w, i32_w]; rw [c31b0]) | skip)
      all_goals
       have H' := Aside0.mk H
       clear H
       go_wp2
       go_meet
       case rel => first | (exact ⟨_, ((t309 != 0)), (by first | rfl | (simp; done) | (simp [*]; done)), H', ⟨by first | omega | exact Nat.le_refl _⟩, ⟨by (with_reducible repeat (first | apply Kd.R_alloc | apply Kd.R_drewN | apply Kd.R_drew)); exact Kd.R_mono HO304.out (fun _ hk => ⟨hk.1.1, hk.2⟩)⟩, ⟨by (with_reducible repeat (first | apply Kd.R_alloc | apply Kd.R_drewN | apply Kd.R_drew)); exact Kd.R_mono HO308.out (fun _ hk => ⟨hk.1.1, hk.2⟩)⟩, ⟨by (with_reducible repeat (first | refine blk_drewN ?_ _ | refine blk_drew ?_ | refine blk_alloc ?_ _)); exact BK292.out⟩, ⟨by repeat (first | (with_reducible first | exact HB.out | apply below_alloc | apply pw_below_drewN | apply below_drew1 | refine below_set ?_ GE292.out) | exact HB.out)⟩⟩) | (exact ⟨_, (true), (by first | rfl | (simp; done) | (simp [*]; done)), H', ⟨by first | omega | exact Nat.le_refl _⟩, ⟨by (with_reducible repeat (first | apply Kd.R_alloc | apply Kd.R_drewN | apply Kd.R_drew)); exact Kd.R_mono HO304.out (fun _ hk => ⟨hk.1.1, hk.2⟩)⟩, ⟨by (with_reducible repeat (first | apply Kd.R_alloc | apply Kd.R_drewN | apply Kd.R_drew)); exact Kd.R_mono HO308.out (fun _ hk => ⟨hk.1.1, hk.2⟩)⟩, ⟨by (with_reducible repeat (first | refine blk_drewN ?_ _ | refine blk_drew ?_ | refine blk_alloc ?_ _)); exact BK292.out⟩, ⟨by repeat (first | (with_reducible first | exact HB.out | apply below_alloc | apply pw_below_drewN | apply below_drew1 | refine below_set ?_ GE292.out) | exact HB.out)⟩⟩)
     case rest =>
      clear HC18
      (try clear c1); (try clear p1); (try clear p2); (try clear c3); (try clear c6); (try clear p6); (try clear c8); (try clear c13); (try clear c14); (try clear c15); (try clear c16); (try clear c31); (try clear c31b0); (try clear c31b1); (try clear c32); (try clear c32b0); (try clear c32b1); (try clear hczxa90f1); (try clear hczxa90f2); (try clear hczx76171); (try clear hczx76172); (try clear hfzxa90f1); (try clear hfzxa90f2); (try clear hfzx76171); (try clear hfzx76172)
      obtain ⟨kq, x60_17, rfl, HA, HJ17, HO_11, HO_13, BK292, HB⟩ := hcut
      cases kq with
      | zero => exact absurd HA.out (by simp [skywaykeep1_ProbeWider.j0])
      | succ kj17 =>
       have H := HA.out
       clear HA
       simp only [skywaykeep1_ProbeWider.j0] at H
       by_cases c33 : x60_17 = true
       · subst c33
         have H1 : (some true) = some r := by rw [if_pos rfl] at H; exact H
         clear H
         have H := H1
         clear H1
         obtain rfl := Option.some.inj H
         go_wp2
         go_ret
         exact ⟨by first | rfl | (simp [errW_none, errW_some] <;> rfl) | (simp [*, errW_none, errW_some] <;> rfl), by repeat (first | (with_reducible first | exact HB.out | apply below_alloc | apply pw_below_drewN | apply below_drew1 | refine below_set ?_ GE292.out) | exact HB.out)⟩
       · replace c33 := Bool.eq_false_iff.mpr c33
         subst c33
         have H1 : (skywaykeep1_ProbeWider.l0 kj17 t306 t302 (t302.length : Int) 0) = some r := by rw [if_neg (show ¬ (false = true) by decide)] at H; exact H
         clear H
         have H := H1
         clear H1
         have H' := Aside0.mk H
         clear H
         obtain ⟨Aozc1, cozc1, eozc1⟩ := Kd.R_slice HO_11.out
         subst eozc1
         go_wp2
         go_loopg [63] kj17 (fun kq v63 w' => ∃ (x63_2 : Int), v63 = .int .i64 x63_2 ∧ Aside0 (skywaykeep1_ProbeWider.l0 kq t306 t302 (t302.length : Int) x63_2 = some r) ∧ Aside0 (kq ≤ kj17) ∧ Aside0 (Kd.R k35 35 w' w.heap.size (fun k_ => (w.heap.size ≤ k_) ∧ some k_ ≠ ((.slice Aozc1 t302.length cozc1) : Value).ownBlock) v307 t306) ∧ Aside0 (Kd.R k35 35 w' w.heap.size (fun k_ => (w.heap.size ≤ k_) ∧ some k_ ≠ (v307 : Value).ownBlock) (.slice Aozc1 t302.length cozc1) t302) ∧ Aside0 (w'.heap[gb292]? = some (.cells #[.int .i64 a2_0, .int .i64 a2_1] 25 (0, 0))) ∧ Aside0 (Below w.heap.size w w'))
         case atStart => exact ⟨(0), (by first | rfl | (simp; done) | (simp [*]; done)), H', ⟨Nat.le_refl _⟩, ⟨by (with_reducible repeat (first | apply Kd.R_alloc | apply Kd.R_drewN | apply Kd.R_drew)); exact HO_13.out⟩, ⟨by (with_reducible repeat (first | apply Kd.R_alloc | apply Kd.R_drewN | apply Kd.R_drew)); exact HO_11.out⟩, ⟨by (with_reducible repeat (first | refine blk_drewN ?_ _ | refine blk_drew ?_ | refine blk_alloc ?_ _)); exact BK292.out⟩, ⟨by repeat (first | (with_reducible first | exact HB.out | apply below_alloc | apply pw_below_drewN | apply below_drew1 | refine below_set ?_ GE292.out) | exact HB.out)⟩⟩
         case round =>
          clear H'
          (try clear c1); (try clear p1); (try clear p2); (try clear c3); (try clear c6); (try clear p6); (try clear c8); (try clear c13); (try clear c14); (try clear c15); (try clear c16); (try clear c31); (try clear c31b0); (try clear c31b1); (try clear c32); (try clear c32b0); (try clear c32b1); (try clear c33); (try clear hczxa90f1); (try clear hczxa90f2); (try clear hczx76171); (try clear hczx76172); (try clear hfzxa90f1); (try clear hfzxa90f2); (try clear hfzx76171); (try clear hfzx76172); (try clear p1); (try clear p2); (try clear p6)
          obtain ⟨x63_2, rfl, HA, HK2, HO_13, HO_61, BK292, HB⟩ := hrel
          cases gk with
          | zero => exact absurd HA.out (by simp [skywaykeep1_ProbeWider.l0])
          | succ k2 =>
           have H := HA.out
           clear HA
           simp only [skywaykeep1_ProbeWider.l0] at H
           by_cases c35 : x63_2 < (t302.length : Int)
           · rw [if_pos c35] at H
             have c35b0 : decide (x63_2 < (t302.length : Int)) = true := decide_eq_true c35
             clear c35
             by_cases c36 : 0 ≤ x63_2
             · rw [if_pos c36] at H
               have c36b0 : decide (0 ≤ x63_2) = true := decide_eq_true c36
               clear c36
               by_cases c37 : x63_2 < (t302.length : Int)
               · rw [if_pos c37] at H
                 have c37b0 : decide (x63_2 < (t302.length : Int)) = true := decide_eq_true c37
                 clear c37
                 have H' := Aside0.mk H
                 clear H
                 have p310 : 0 ≤ (x63_2 : Int) := of_decide_eq_true (by first | (with_reducible assumption) | assumption)
                 have q310 : x63_2 < (t302.length : Int) := of_decide_eq_true (by first | (with_reducible assumption) | assumption)
                 obtain ⟨ad310, e310, hx310_0, hx310_1⟩ := at_T35 (Kd.R_reads' HO_61.out).2.2 x63_2 p310 q310
                 cases e310
                 replace p310 := eq_true p310
                 replace q310 := eq_true q310
                 go_wp2_with (first | ((with_reducible refine gate_dst (N := 16) rfl ?_); refine box_event ?hg (N := 16) ?hd (cs := #[.int .i64 0, .int .i64 0]) (t := 35) ?hr ?_; (case hd => rfl); (case hg => rfl); (case hr => first | (go_simp; done) | (go_simp; rfl)); intro gb311 hg wx02e11 hbox hb; have n0_ := Aside0.mk (Kd.R_below (Kd.R_elderB (by (with_reducible repeat (first | apply Kd.R_alloc | apply Kd.R_drewN | apply Kd.R_drew)); exact HO_13.out) gb311 (Nat.le_of_eq hg.symm)) hb); have n1_ := Aside0.mk (Kd.R_below (Kd.R_elderB (by (with_reducible repeat (first | apply Kd.R_alloc | apply Kd.R_drewN | apply Kd.R_drew)); exact HO_61.out) gb311 (Nat.le_of_eq hg.symm)) hb); have n2_ := Aside0.mk (blk_below (g := gb292) (o := .cells #[.int .i64 a2_0, .int .i64 a2_1] 25 (0, 0)) (by (with_reducible repeat (first | refine blk_drewN ?_ _ | refine blk_drew ?_ | refine blk_alloc ?_ _)); exact BK292.out) hb); have n3_ := Aside0.mk (below_step (by repeat (first | (with_reducible first | exact HB.out | apply below_alloc | apply pw_below_drewN | apply below_drew1 | refine below_set ?_ GE292.out) | exact HB.out)) hb); have n4_ := Aside0.mk (hbox); have n5_ := Aside0.mk ((by rw [hg]; exact (below_size (by repeat (first | (with_reducible first | exact HB.out | apply below_alloc | apply pw_below_drewN | apply below_drew1 | refine below_set ?_ GE292.out) | exact HB.out))) : w.heap.size ≤ gb311)); have n6_ := Aside0.mk ((by rw [hg]; exact (below_size (by repeat (first | (with_reducible first | exact HB.out | apply below_alloc | apply pw_below_drewN | apply below_drew1 | refine below_set ?_ GE292.out) | exact HB.out))) : w.heap.size ≤ gb311)); have n7_ := Aside0.mk ((by rw [hg]; exact Nat.ne_of_lt (blk_lt (g := gb292) (o := .cells #[.int .i64 a2_0, .int .i64 a2_1] 25 (0, 0)) (by (with_reducible repeat (first | refine blk_drewN ?_ _ | refine blk_drew ?_ | refine blk_alloc ?_ _)); exact BK292.out)) : gb292 ≠ gb311)); have n8_ := Aside0.mk ((by rw [hg]; exact Nat.ne_of_gt (blk_lt (g := gb292) (o := .cells #[.int .i64 a2_0, .int .i64 a2_1] 25 (0, 0)) (by (with_reducible repeat (first | refine blk_drewN ?_ _ | refine blk_drew ?_ | refine blk_alloc ?_ _)); exact BK292.out)) : gb311 ≠ gb292)); clear HO_13; clear HO_61; clear BK292; clear HB; have HO_13 := n0_; have HO_61 := n1_; have BK292 := n2_; have HB := n3_; have BK311 := n4_; have GW311 := n5_; have GE311 := n6_; have NB292_311 := n7_; have NB311_292 := n8_; clear n0_ n1_ n2_ n3_ n4_ n5_ n6_ n7_ n8_; clear hb hbox hg; have hnbx02e11 := NB311_292.out; have hncx02e11 := NB292_311.out; have hczx02e11 : wx02e11.cell? ⟨gb311, 0, none⟩ = some (.int .i64 0) := (blk_cell BK311.out 0).trans rfl; have hczx02e12 : wx02e11.cell? ⟨gb311, 1, none⟩ = some (.int .i64 0) := (blk_cell BK311.out 1).trans rfl; have hfzx02e11 := blk_frozen BK311.out 0; have hfzx02e12 := blk_frozen BK311.out 1; obtain ⟨Aox02e11, cox02e11, eox02e11⟩ := Kd.R_slice HO_13.out; subst eox02e11))
                 go_loopg [17, 69] k2 (fun kq v17 v69 w' => ∃ (x17_3 : Bool) (x69_3 : Int), v17 = .bool x17_3 ∧ v69 = .int .i64 x69_3 ∧ Aside0 (skywaykeep1_ProbeWider.l1 kq t306 x17_3 t302 (t302.length : Int) x63_2 t306 (t306.length : Int) x69_3 ((rd_T35 t302 x63_2).f0) ((rd_T35 t302 x63_2).f1) = some r) ∧ Aside0 (kq ≤ k2) ∧ Aside0 (Kd.R k35 35 w' w.heap.size (fun k_ => (w.heap.size ≤ k_) ∧ some k_ ≠ ((.slice (some ad310) t302.length cozc1) : Value).ownBlock ∧ k_ ≠ gb311) (.slice Aox02e11 t306.length cox02e11) t306) ∧ Aside0 (Kd.R k35 35 w' w.heap.size (fun k_ => (w.heap.size ≤ k_) ∧ some k_ ≠ ((.slice Aox02e11 t306.length cox02e11) : Value).ownBlock ∧ some k_ ≠ ((.slice Aox02e11 t306.length cox02e11) : Value).ownBlock ∧ k_ ≠ gb311) (.slice (some ad310) t302.length cozc1) t302) ∧ Aside0 (Kd.R k35 35 w' w.heap.size (fun k_ => (w.heap.size ≤ k_) ∧ some k_ ≠ ((.slice (some ad310) t302.length cozc1) : Value).ownBlock ∧ k_ ≠ gb311) (.slice Aox02e11 t306.length cox02e11) t306) ∧ Aside0 (w'.heap[gb292]? = some (.cells #[.int .i64 a2_0, .int .i64 a2_1] 25 (0, 0))) ∧ Aside0 (w'.heap[gb311]? = some (.cells #[.int .i64 ((rd_T35 t302 x63_2).f0), .int .i64 ((rd_T35 t302 x63_2).f1)] 35 (0, 0))) ∧ Aside0 (Below w.heap.size w w'))
                 case atStart => exact ⟨(false), (0), (by first | rfl | (simp; done) | (simp [*]; done)), (by first | rfl | (simp; done) | (simp [*]; done)), H', ⟨Nat.le_refl _⟩, ⟨by (with_reducible repeat (first | apply Kd.R_alloc | apply Kd.R_drewN | apply Kd.R_drew)); exact Kd.R_mono (Kd.R_far (p := ⟨gb311, 1, none⟩) (Kd.R_far (p := ⟨gb311, 0, none⟩) (Kd.R_mono HO_13.out (fun k_ hk => (⟨hk, hk.2⟩ : _ ∧ k_ ≠ gb311))) (fun _ hk => hk.2) (.int .i64 ((rd_T35 t302 x63_2).f0))) (fun _ hk => hk.2) (.int .i64 ((rd_T35 t302 x63_2).f1))) (fun _ hk => ⟨hk.1.1.1, ⟨hk.1.1.2, hk.1.2⟩⟩)⟩, ⟨by (with_reducible repeat (first | apply Kd.R_alloc | apply Kd.R_drewN | apply Kd.R_drew)); exact Kd.R_mono (Kd.R_far (p := ⟨gb311, 1, none⟩) (Kd.R_far (p := ⟨gb311, 0, none⟩) (Kd.R_mono HO_61.out (fun k_ hk => (⟨hk, hk.2⟩ : _ ∧ k_ ≠ gb311))) (fun _ hk => hk.2) (.int .i64 ((rd_T35 t302 x63_2).f0))) (fun _ hk => hk.2) (.int .i64 ((rd_T35 t302 x63_2).f1))) (fun _ hk => ⟨hk.1.1.1, ⟨hk.1.1.2, ⟨hk.1.1.2, hk.1.2⟩⟩⟩)⟩, ⟨by (with_reducible repeat (first | apply Kd.R_alloc | apply Kd.R_drewN | apply Kd.R_drew)); exact Kd.R_mono (Kd.R_far (p := ⟨gb311, 1, none⟩) (Kd.R_far (p := ⟨gb311, 0, none⟩) (Kd.R_mono HO_13.out (fun k_ hk => (⟨hk, hk.2⟩ : _ ∧ k_ ≠ gb311))) (fun _ hk => hk.2) (.int .i64 ((rd_T35 t302 x63_2).f0))) (fun _ hk => hk.2) (.int .i64 ((rd_T35 t302 x63_2).f1))) (fun _ hk => ⟨hk.1.1.1, ⟨hk.1.1.2, hk.1.2⟩⟩)⟩, ⟨by (with_reducible repeat (first | refine blk_drewN ?_ _ | refine blk_drew ?_ | refine blk_alloc ?_ _)); refine blk_far ?_ NB292_311.out _; (with_reducible repeat (first | refine blk_drewN ?_ _ | refine blk_drew ?_ | refine blk_alloc ?_ _)); refine blk_far ?_ NB292_311.out _; (with_reducible repeat (first | refine blk_drewN ?_ _ | refine blk_drew ?_ | refine blk_alloc ?_ _)); exact BK292.out⟩, ⟨by (with_reducible repeat (first | refine blk_drewN ?_ _ | refine blk_drew ?_ | refine blk_alloc ?_ _)); refine blk_put (cs := #[.int .i64 ((rd_T35 t302 x63_2).f0), .int .i64 0]) ?_ 1 _ rfl; (with_reducible repeat (first | refine blk_drewN ?_ _ | refine blk_drew ?_ | refine blk_alloc ?_ _)); refine blk_put (cs := #[.int .i64 0, .int .i64 0]) ?_ 0 _ rfl; (with_reducible repeat (first | refine blk_drewN ?_ _ | refine blk_drew ?_ | refine blk_alloc ?_ _)); exact BK311.out⟩, ⟨by repeat (first | (with_reducible first | exact HB.out | apply below_alloc | apply pw_below_drewN | apply below_drew1 | refine below_set ?_ GE292.out | refine below_set ?_ GE311.out) | exact HB.out)⟩⟩
                 case round =>
                  clear H'
                  (try clear c1); (try clear p1); (try clear p2); (try clear c3); (try clear p3); (try clear q3); (try clear hx3); (try clear c6); (try clear p6); (try clear c8); (try clear c13); (try clear c14); (try clear c15); (try clear c16); (try clear c31); (try clear c31b0); (try clear c31b1); (try clear p31); (try clear q31); (try clear hx31); (try clear c32); (try clear c32b0); (try clear c32b1); (try clear c33); (try clear c35); (try clear c35b0); (try clear c36); (try clear c36b0); (try clear c37); (try clear c37b0); (try clear c39); (try clear hczxa90f1); (try clear hczxa90f2); (try clear hczx76171); (try clear hczx76172); (try clear hczx02e11); (try clear hczx02e12); (try clear hfzxa90f1); (try clear hfzxa90f2); (try clear hfzx76171)
                  (try clear hfzx76172); (try clear hfzx02e11); (try clear hfzx02e12); (try clear hx310_0); (try clear hx310_1); (try clear p1); (try clear p2); (try clear p310); (try clear p6); (try clear q310)
                  obtain ⟨x17_3, x69_3, rfl, rfl, HA, HK3, HO_13, HO_61, HO_67, BK292, BK311, HB⟩ := hrel
                  cases gk with
                  | zero => exact absurd HA.out (by simp [skywaykeep1_ProbeWider.l1])
                  | succ k3 =>
                   have H := HA.out
                   clear HA
                   simp only [skywaykeep1_ProbeWider.l1] at H
                   refine Or.elim (Classical.em (x69_3 < (t306.length : Int))) (fun c42 => ?p8_) (fun c42 => ?n8_)
                   case' p8_ =>
                    rw [if_pos c42] at H
                    have c42b0 : decide (x69_3 < (t306.length : Int)) = true := decide_eq_true c42
                    clear c42
                    refine Or.elim (Classical.em (0 ≤ x69_3)) (fun c43 => ?p9_) (fun c43 => ?n9_)
                    case' p9_ =>
                     rw [if_pos c43] at H
                     have c43b0 : decide (0 ≤ x69_3) = true := decide_eq_true c43
                     clear c43
                     refine Or.elim (Classical.em (x69_3 < (t306.length : Int))) (fun c44 => ?p10_) (fun c44 => ?n10_)
                     case' p10_ =>
                      rw [if_pos c44] at H
                      have c44b0 : decide (x69_3 < (t306.length : Int)) = true := decide_eq_true c44
                      clear c44
                      refine Or.elim (Classical.em (x17_3 = true)) (fun c45 => ?p11_) (fun c45 => ?n11_)
                      case' p11_ =>
                       subst c45
                       have H1 : (skywaykeep1_ProbeWider.l1 k3 t306 true t302 (t302.length : Int) x63_2 t306 (t306.length : Int) (wrap64 (x69_3 + 1)) ((rd_T35 t302 x63_2).f0) ((rd_T35 t302 x63_2).f1)) = some r := by rw [if_pos rfl] at H; exact H
                       clear H
                       have H := H1
                       clear H1
                       have hm7_0 := Aside0.mk trivial
                      case' n11_ =>
                       replace c45 := Bool.eq_false_iff.mpr c45
                       subst c45
                       have H1 : (if ((rd_T35 t306 x69_3).f0) ≤ ((rd_T35 t302 x63_2).f0) then (skywaykeep1_ProbeWider.l1 k3 t306 (decide (((rd_T35 t302 x63_2).f1) ≤ ((rd_T35 t306 x69_3).f1))) t302 (t302.length : Int) x63_2 t306 (t306.length : Int) (wrap64 (x69_3 + 1)) ((rd_T35 t302 x63_2).f0) ((rd_T35 t302 x63_2).f1)) else (skywaykeep1_ProbeWider.l1 k3 t306 false t302 (t302.length : Int) x63_2 t306 (t306.length : Int) (wrap64 (x69_3 + 1)) ((rd_T35 t302 x63_2).f0) ((rd_T35 t302 x63_2).f1))) = some r := by rw [if_neg (show ¬ (false = true) by decide)] at H; exact H
                       clear H
                       have H := H1
                       clear H1
                       refine Or.elim (Classical.em (((rd_T35 t306 x69_3).f0) ≤ ((rd_T35 t302 x63_2).f0))) (fun c50 => ?p12_) (fun c50 => ?n12_)
                       case' p12_ =>
                        rw [if_pos c50] at H
                        have c50b0 : decide (((rd_T35 t306 x69_3).f0) ≤ ((rd_T35 t302 x63_2).f0)) = true := decide_eq_true c50
                        clear c50
                        have hm7_0 := Aside0.mk trivial
                       case' n12_ =>
                        rw [if_neg c50] at H
                        have c50b0 : decide (((rd_T35 t306 x69_3).f0) ≤ ((rd_T35 t302 x63_2).f0)) = false := decide_eq_false c50
                        clear c50
                        have hm7_0 := Aside0.mk trivial
                     case' n10_ =>
                      rw [if_neg c44] at H
                      exact absurd H (by simp)
                    case' n9_ =>
                     rw [if_neg c43] at H
                     exact absurd H (by simp)
                   case' n8_ =>
                    rw [if_neg c42] at H
                    have c42b0 : decide (x69_3 < (t306.length : Int)) = false := decide_eq_false c42
                    clear c42
                    refine Or.elim (Classical.em (x17_3 = true)) (fun c63 => ?p13_) (fun c63 => ?n13_)
                    case' p13_ =>
                     subst c63
                     have H1 : (skywaykeep1_ProbeWider.l0 k3 t306 t302 (t302.length : Int) (wrap64 (x63_2 + 1))) = some r := by rw [if_pos rfl] at H; exact H
                     clear H
                     have H := H1
                     clear H1
                     have hm7_1 := Aside0.mk trivial
                    case' n13_ =>
                     replace c63 := Bool.eq_false_iff.mpr c63
                     subst c63
                     have H1 : (some false) = some r := by rw [if_neg (show ¬ (false = true) by decide)] at H; exact H
                     clear H
                     have H := H1
                     clear H1
                     have hm7_2 := Aside0.mk trivial
                   all_goals
                    first
                     | (first | (have _hm := hm7_0) | (have _hm := hm7_1))
                       have H' := Aside0.mk H
                       clear H
                       first
                        | clear hm7_0
                          have p312 : 0 ≤ (x69_3 : Int) := of_decide_eq_true (by first | (with_reducible assumption) | assumption)
                          have q312 : x69_3 < (t306.length : Int) := of_decide_eq_true (by first | (with_reducible assumption) | assumption)
                          obtain ⟨ad312, e312, hx312_0, hx312_1⟩ := at_T35 (Kd.R_reads' HO_67.out).2.2 x69_3 p312 q312
                          cases e312
                          replace p312 := eq_true p312
                          replace q312 := eq_true q312
                          go_wp2_with (first | ((with_reducible refine gate_dst (N := 19) rfl ?_); refine box_event ?hg (N := 19) ?hd (cs := #[.int .i64 0, .int .i64 0]) (t := 35) ?hr ?_; (case hd => rfl); (case hg => rfl); (case hr => first | (go_simp; done) | (go_simp; rfl)); intro gb313 hg wx99541 hbox hb; have n0_ := Aside0.mk (Kd.R_below (Kd.R_elderB (by (with_reducible repeat (first | apply Kd.R_alloc | apply Kd.R_drewN | apply Kd.R_drew)); exact HO_13.out) gb313 (Nat.le_of_eq hg.symm)) hb); have n1_ := Aside0.mk (Kd.R_below (Kd.R_elderB (by (with_reducible repeat (first | apply Kd.R_alloc | apply Kd.R_drewN | apply Kd.R_drew)); exact HO_61.out) gb313 (Nat.le_of_eq hg.symm)) hb); have n2_ := Aside0.mk (Kd.R_below (Kd.R_elderB (by (with_reducible repeat (first | apply Kd.R_alloc | apply Kd.R_drewN | apply Kd.R_drew)); exact HO_67.out) gb313 (Nat.le_of_eq hg.symm)) hb); have n3_ := Aside0.mk (blk_below (g := gb292) (o := .cells #[.int .i64 a2_0, .int .i64 a2_1] 25 (0, 0)) (by (with_reducible repeat (first | refine blk_drewN ?_ _ | refine blk_drew ?_ | refine blk_alloc ?_ _)); exact BK292.out) hb); have n4_ := Aside0.mk (blk_below (g := gb311) (o := .cells #[.int .i64 ((rd_T35 t302 x63_2).f0), .int .i64 ((rd_T35 t302 x63_2).f1)] 35 (0, 0)) (by (with_reducible repeat (first | refine blk_drewN ?_ _ | refine blk_drew ?_ | refine blk_alloc ?_ _)); exact BK311.out) hb); have n5_ := Aside0.mk (below_step (by repeat (first | (with_reducible first | exact HB.out | apply below_alloc | apply pw_below_drewN | apply below_drew1 | refine below_set ?_ GE292.out | refine below_set ?_ GE311.out) | exact HB.out)) hb); have n6_ := Aside0.mk (hbox); have n7_ := Aside0.mk ((by rw [hg]; exact (below_size (by repeat (first | (with_reducible first | exact HB.out | apply below_alloc | apply pw_below_drewN | apply below_drew1 | refine below_set ?_ GE292.out | refine below_set ?_ GE311.out) | exact HB.out))) : w.heap.size ≤ gb313)); have n8_ := Aside0.mk ((by rw [hg]; exact (below_size (by repeat (first | (with_reducible first | exact HB.out | apply below_alloc | apply pw_below_drewN | apply below_drew1 | refine below_set ?_ GE292.out | refine below_set ?_ GE311.out) | exact HB.out))) : w.heap.size ≤ gb313)); have n9_ := Aside0.mk ((by rw [hg]; exact Nat.ne_of_lt (blk_lt (g := gb292) (o := .cells #[.int .i64 a2_0, .int .i64 a2_1] 25 (0, 0)) (by (with_reducible repeat (first | refine blk_drewN ?_ _ | refine blk_drew ?_ | refine blk_alloc ?_ _)); exact BK292.out)) : gb292 ≠ gb313)); have n10_ := Aside0.mk ((by rw [hg]; exact Nat.ne_of_gt (blk_lt (g := gb292) (o := .cells #[.int .i64 a2_0, .int .i64 a2_1] 25 (0, 0)) (by (with_reducible repeat (first | refine blk_drewN ?_ _ | refine blk_drew ?_ | refine blk_alloc ?_ _)); exact BK292.out)) : gb313 ≠ gb292)); have n11_ := Aside0.mk ((by rw [hg]; exact Nat.ne_of_lt (blk_lt (g := gb311) (o := .cells #[.int .i64 ((rd_T35 t302 x63_2).f0), .int .i64 ((rd_T35 t302 x63_2).f1)] 35 (0, 0)) (by (with_reducible repeat (first | refine blk_drewN ?_ _ | refine blk_drew ?_ | refine blk_alloc ?_ _)); exact BK311.out)) : gb311 ≠ gb313)); have n12_ := Aside0.mk ((by rw [hg]; exact Nat.ne_of_gt (blk_lt (g := gb311) (o := .cells #[.int .i64 ((rd_T35 t302 x63_2).f0), .int .i64 ((rd_T35 t302 x63_2).f1)] 35 (0, 0)) (by (with_reducible repeat (first | refine blk_drewN ?_ _ | refine blk_drew ?_ | refine blk_alloc ?_ _)); exact BK311.out)) : gb313 ≠ gb311)); clear HO_13; clear HO_61; clear HO_67; clear BK292; clear BK311; clear HB; have HO_13 := n0_; have HO_61 := n1_; have HO_67 := n2_; have BK292 := n3_; have BK311 := n4_; have HB := n5_; have BK313 := n6_; have GW313 := n7_; have GE313 := n8_; have NB292_313 := n9_; have NB313_292 := n10_; have NB311_313 := n11_; have NB313_311 := n12_; clear n0_ n1_ n2_ n3_ n4_ n5_ n6_ n7_ n8_ n9_ n10_ n11_ n12_; clear hb hbox hg; have hnbx99541 := NB313_292.out; have hncx99541 := NB292_313.out; have hnbx99542 := NB313_311.out; have hncx99542 := NB311_313.out; have hczx99541 : wx99541.cell? ⟨gb313, 0, none⟩ = some (.int .i64 0) := (blk_cell BK313.out 0).trans rfl; have hczx99542 : wx99541.cell? ⟨gb313, 1, none⟩ = some (.int .i64 0) := (blk_cell BK313.out 1).trans rfl; have hfzx99541 := blk_frozen BK313.out 0; have hfzx99542 := blk_frozen BK313.out 1; have hnbx99543 := NB311_292.out; have hncx99543 := NB292_311.out; have hczx99543 : wx99541.cell? ⟨gb311, 0, none⟩ = some (.int .i64 ((rd_T35 t302 x63_2).f0)) := (blk_cell BK311.out 0).trans rfl; have hczx99544 : wx99541.cell? ⟨gb311, 1, none⟩ = some (.int .i64 ((rd_T35 t302 x63_2).f1)) := (blk_cell BK311.out 1).trans rfl; have hfzx99543 := blk_frozen BK311.out 0; have hfzx99544 := blk_frozen BK311.out 1) | ((with_reducible refine gate_dst (N := 19) rfl ?_); refine box_event ?hg (N := 19) ?hd (cs := #[.int .i64 0, .int .i64 0]) (t := 35) ?hr ?_; (case hd => rfl); (case hg => rfl); (case hr => first | (go_simp; done) | (go_simp; rfl)); intro gb313 hg wx400d1 hbox hb; have n0_ := Aside0.mk (Kd.R_below (Kd.R_elderB (by (with_reducible repeat (first | apply Kd.R_alloc | apply Kd.R_drewN | apply Kd.R_drew)); exact HO_13.out) gb313 (Nat.le_of_eq hg.symm)) hb); have n1_ := Aside0.mk (Kd.R_below (Kd.R_elderB (by (with_reducible repeat (first | apply Kd.R_alloc | apply Kd.R_drewN | apply Kd.R_drew)); exact HO_61.out) gb313 (Nat.le_of_eq hg.symm)) hb); have n2_ := Aside0.mk (Kd.R_below (Kd.R_elderB (by (with_reducible repeat (first | apply Kd.R_alloc | apply Kd.R_drewN | apply Kd.R_drew)); exact HO_67.out) gb313 (Nat.le_of_eq hg.symm)) hb); have n3_ := Aside0.mk (blk_below (g := gb292) (o := .cells #[.int .i64 a2_0, .int .i64 a2_1] 25 (0, 0)) (by (with_reducible repeat (first | refine blk_drewN ?_ _ | refine blk_drew ?_ | refine blk_alloc ?_ _)); exact BK292.out) hb); have n4_ := Aside0.mk (blk_below (g := gb311) (o := .cells #[.int .i64 ((rd_T35 t302 x63_2).f0), .int .i64 ((rd_T35 t302 x63_2).f1)] 35 (0, 0)) (by (with_reducible repeat (first | refine blk_drewN ?_ _ | refine blk_drew ?_ | refine blk_alloc ?_ _)); exact BK311.out) hb); have n5_ := Aside0.mk (below_step (by repeat (first | (with_reducible first | exact HB.out | apply below_alloc | apply pw_below_drewN | apply below_drew1 | refine below_set ?_ GE292.out | refine below_set ?_ GE311.out) | exact HB.out)) hb); have n6_ := Aside0.mk (hbox); have n7_ := Aside0.mk ((by rw [hg]; exact (below_size (by repeat (first | (with_reducible first | exact HB.out | apply below_alloc | apply pw_below_drewN | apply below_drew1 | refine below_set ?_ GE292.out | refine below_set ?_ GE311.out) | exact HB.out))) : w.heap.size ≤ gb313)); have n8_ := Aside0.mk ((by rw [hg]; exact (below_size (by repeat (first | (with_reducible first | exact HB.out | apply below_alloc | apply pw_below_drewN | apply below_drew1 | refine below_set ?_ GE292.out | refine below_set ?_ GE311.out) | exact HB.out))) : w.heap.size ≤ gb313)); have n9_ := Aside0.mk ((by rw [hg]; exact Nat.ne_of_lt (blk_lt (g := gb292) (o := .cells #[.int .i64 a2_0, .int .i64 a2_1] 25 (0, 0)) (by (with_reducible repeat (first | refine blk_drewN ?_ _ | refine blk_drew ?_ | refine blk_alloc ?_ _)); exact BK292.out)) : gb292 ≠ gb313)); have n10_ := Aside0.mk ((by rw [hg]; exact Nat.ne_of_gt (blk_lt (g := gb292) (o := .cells #[.int .i64 a2_0, .int .i64 a2_1] 25 (0, 0)) (by (with_reducible repeat (first | refine blk_drewN ?_ _ | refine blk_drew ?_ | refine blk_alloc ?_ _)); exact BK292.out)) : gb313 ≠ gb292)); have n11_ := Aside0.mk ((by rw [hg]; exact Nat.ne_of_lt (blk_lt (g := gb311) (o := .cells #[.int .i64 ((rd_T35 t302 x63_2).f0), .int .i64 ((rd_T35 t302 x63_2).f1)] 35 (0, 0)) (by (with_reducible repeat (first | refine blk_drewN ?_ _ | refine blk_drew ?_ | refine blk_alloc ?_ _)); exact BK311.out)) : gb311 ≠ gb313)); have n12_ := Aside0.mk ((by rw [hg]; exact Nat.ne_of_gt (blk_lt (g := gb311) (o := .cells #[.int .i64 ((rd_T35 t302 x63_2).f0), .int .i64 ((rd_T35 t302 x63_2).f1)] 35 (0, 0)) (by (with_reducible repeat (first | refine blk_drewN ?_ _ | refine blk_drew ?_ | refine blk_alloc ?_ _)); exact BK311.out)) : gb313 ≠ gb311)); clear HO_13; clear HO_61; clear HO_67; clear BK292; clear BK311; clear HB; have HO_13 := n0_; have HO_61 := n1_; have HO_67 := n2_; have BK292 := n3_; have BK311 := n4_; have HB := n5_; have BK313 := n6_; have GW313 := n7_; have GE313 := n8_; have NB292_313 := n9_; have NB313_292 := n10_; have NB311_313 := n11_; have NB313_311 := n12_; clear n0_ n1_ n2_ n3_ n4_ n5_ n6_ n7_ n8_ n9_ n10_ n11_ n12_; clear hb hbox hg; have hnbx400d1 := NB313_292.out; have hncx400d1 := NB292_313.out; have hnbx400d2 := NB313_311.out; have hncx400d2 := NB311_313.out; have hczx400d1 : wx400d1.cell? ⟨gb313, 0, none⟩ = some (.int .i64 0) := (blk_cell BK313.out 0).trans rfl; have hczx400d2 : wx400d1.cell? ⟨gb313, 1, none⟩ = some (.int .i64 0) := (blk_cell BK313.out 1).trans rfl; have hfzx400d1 := blk_frozen BK313.out 0; have hfzx400d2 := blk_frozen BK313.out 1))
                          go_roundg k3
                          case measure => have := HJ17.out; have := HK2.out; have := HK3.out; omega
                          case rel => first | (exact ⟨(true), (wrap64 (x69_3 + 1)), (by first | rfl | (simp; done) | (simp [*]; done)), (by first | rfl | (simp; done) | (simp [*]; done)), H', ⟨by have := HJ17.out; have := HK2.out; have := HK3.out; omega⟩, ⟨by (with_reducible repeat (first | apply Kd.R_alloc | apply Kd.R_drewN | apply Kd.R_drew)); exact Kd.R_mono (Kd.R_far (p := ⟨gb313, 1, none⟩) (Kd.R_far (p := ⟨gb313, 0, none⟩) (Kd.R_mono HO_13.out (fun k_ hk => (⟨hk, hk.2⟩ : _ ∧ k_ ≠ gb313))) (fun _ hk => hk.2) (.int .i64 ((rd_T35 t306 x69_3).f0))) (fun _ hk => hk.2) (.int .i64 ((rd_T35 t306 x69_3).f1))) (fun _ hk => ⟨hk.1.1.1, ⟨hk.1.1.2.1, hk.1.1.2.2⟩⟩)⟩, ⟨by (with_reducible repeat (first | apply Kd.R_alloc | apply Kd.R_drewN | apply Kd.R_drew)); exact Kd.R_mono (Kd.R_far (p := ⟨gb313, 1, none⟩) (Kd.R_far (p := ⟨gb313, 0, none⟩) (Kd.R_mono HO_61.out (fun k_ hk => (⟨hk, hk.2⟩ : _ ∧ k_ ≠ gb313))) (fun _ hk => hk.2) (.int .i64 ((rd_T35 t306 x69_3).f0))) (fun _ hk => hk.2) (.int .i64 ((rd_T35 t306 x69_3).f1))) (fun _ hk => ⟨hk.1.1.1, ⟨hk.1.1.2.1, ⟨hk.1.1.2.2.1, hk.1.1.2.2.2⟩⟩⟩)⟩, ⟨by (with_reducible repeat (first | apply Kd.R_alloc | apply Kd.R_drewN | apply Kd.R_drew)); exact Kd.R_mono (Kd.R_far (p := ⟨gb313, 1, none⟩) (Kd.R_far (p := ⟨gb313, 0, none⟩) (Kd.R_mono HO_67.out (fun k_ hk => (⟨hk, hk.2⟩ : _ ∧ k_ ≠ gb313))) (fun _ hk => hk.2) (.int .i64 ((rd_T35 t306 x69_3).f0))) (fun _ hk => hk.2) (.int .i64 ((rd_T35 t306 x69_3).f1))) (fun _ hk => ⟨hk.1.1.1, ⟨hk.1.1.2.1, hk.1.1.2.2⟩⟩)⟩, ⟨by (with_reducible repeat (first | refine blk_drewN ?_ _ | refine blk_drew ?_ | refine blk_alloc ?_ _)); refine blk_far ?_ NB292_313.out _; (with_reducible repeat (first | refine blk_drewN ?_ _ | refine blk_drew ?_ | refine blk_alloc ?_ _)); refine blk_far ?_ NB292_313.out _; (with_reducible repeat (first | refine blk_drewN ?_ _ | refine blk_drew ?_ | refine blk_alloc ?_ _)); exact BK292.out⟩, ⟨by (with_reducible repeat (first | refine blk_drewN ?_ _ | refine blk_drew ?_ | refine blk_alloc ?_ _)); refine blk_far ?_ NB311_313.out _; (with_reducible repeat (first | refine blk_drewN ?_ _ | refine blk_drew ?_ | refine blk_alloc ?_ _)); refine blk_far ?_ NB311_313.out _; (with_reducible repeat (first | refine blk_drewN ?_ _ | refine blk_drew ?_ | refine blk_alloc ?_ _)); exact BK311.out⟩, ⟨by repeat (first | (with_reducible first | exact HB.out | apply below_alloc | apply pw_below_drewN | apply below_drew1 | refine below_set ?_ GE292.out | refine below_set ?_ GE311.out | refine below_set ?_ GE313.out) | exact HB.out)⟩⟩) | (exact ⟨(decide (((rd_T35 t302 x63_2).f1) ≤ ((rd_T35 t306 x69_3).f1))), (wrap64 (x69_3 + 1)), (by first | rfl | (simp; done) | (simp [*]; done)), (by first | rfl | (simp; done) | (simp [*]; done)), H', ⟨by have := HJ17.out; have := HK2.out; have := HK3.out; omega⟩, ⟨by (with_reducible repeat (first | apply Kd.R_alloc | apply Kd.R_drewN | apply Kd.R_drew)); exact Kd.R_mono (Kd.R_far (p := ⟨gb313, 1, none⟩) (Kd.R_far (p := ⟨gb313, 0, none⟩) (Kd.R_mono HO_13.out (fun k_ hk => (⟨hk, hk.2⟩ : _ ∧ k_ ≠ gb313))) (fun _ hk => hk.2) (.int .i64 ((rd_T35 t306 x69_3).f0))) (fun _ hk => hk.2) (.int .i64 ((rd_T35 t306 x69_3).f1))) (fun _ hk => ⟨hk.1.1.1, ⟨hk.1.1.2.1, hk.1.1.2.2⟩⟩)⟩, ⟨by (with_reducible repeat (first | apply Kd.R_alloc | apply Kd.R_drewN | apply Kd.R_drew)); exact Kd.R_mono (Kd.R_far (p := ⟨gb313, 1, none⟩) (Kd.R_far (p := ⟨gb313, 0, none⟩) (Kd.R_mono HO_61.out (fun k_ hk => (⟨hk, hk.2⟩ : _ ∧ k_ ≠ gb313))) (fun _ hk => hk.2) (.int .i64 ((rd_T35 t306 x69_3).f0))) (fun _ hk => hk.2) (.int .i64 ((rd_T35 t306 x69_3).f1))) (fun _ hk => ⟨hk.1.1.1, ⟨hk.1.1.2.1, ⟨hk.1.1.2.2.1, hk.1.1.2.2.2⟩⟩⟩)⟩, ⟨by (with_reducible repeat (first | apply Kd.R_alloc | apply Kd.R_drewN | apply Kd.R_drew)); exact Kd.R_mono (Kd.R_far (p := ⟨gb313, 1, none⟩) (Kd.R_far (p := ⟨gb313, 0, none⟩) (Kd.R_mono HO_67.out (fun k_ hk => (⟨hk, hk.2⟩ : _ ∧ k_ ≠ gb313))) (fun _ hk => hk.2) (.int .i64 ((rd_T35 t306 x69_3).f0))) (fun _ hk => hk.2) (.int .i64 ((rd_T35 t306 x69_3).f1))) (fun _ hk => ⟨hk.1.1.1, ⟨hk.1.1.2.1, hk.1.1.2.2⟩⟩)⟩, ⟨by (with_reducible repeat (first | refine blk_drewN ?_ _ | refine blk_drew ?_ | refine blk_alloc ?_ _)); refine blk_far ?_ NB292_313.out _; (with_reducible repeat (first | refine blk_drewN ?_ _ | refine blk_drew ?_ | refine blk_alloc ?_ _)); refine blk_far ?_ NB292_313.out _; (with_reducible repeat (first | refine blk_drewN ?_ _ | refine blk_drew ?_ | refine blk_alloc ?_ _)); exact BK292.out⟩, ⟨by (with_reducible repeat (first | refine blk_drewN ?_ _ | refine blk_drew ?_ | refine blk_alloc ?_ _)); refine blk_far ?_ NB311_313.out _; (with_reducible repeat (first | refine blk_drewN ?_ _ | refine blk_drew ?_ | refine blk_alloc ?_ _)); refine blk_far ?_ NB311_313.out _; (with_reducible repeat (first | refine blk_drewN ?_ _ | refine blk_drew ?_ | refine blk_alloc ?_ _)); exact BK311.out⟩, ⟨by repeat (first | (with_reducible first | exact HB.out | apply below_alloc | apply pw_below_drewN | apply below_drew1 | refine below_set ?_ GE292.out | refine below_set ?_ GE311.out | refine below_set ?_ GE313.out) | exact HB.out)⟩⟩) | (exact ⟨(false), (wrap64 (x69_3 + 1)), (by first | rfl | (simp; done) | (simp [*]; done)), (by first | rfl | (simp; done) | (simp [*]; done)), H', ⟨by have := HJ17.out; have := HK2.out; have := HK3.out; omega⟩, ⟨by (with_reducible repeat (first | apply Kd.R_alloc | apply Kd.R_drewN | apply Kd.R_drew)); exact Kd.R_mono (Kd.R_far (p := ⟨gb313, 1, none⟩) (Kd.R_far (p := ⟨gb313, 0, none⟩) (Kd.R_mono HO_13.out (fun k_ hk => (⟨hk, hk.2⟩ : _ ∧ k_ ≠ gb313))) (fun _ hk => hk.2) (.int .i64 ((rd_T35 t306 x69_3).f0))) (fun _ hk => hk.2) (.int .i64 ((rd_T35 t306 x69_3).f1))) (fun _ hk => ⟨hk.1.1.1, ⟨hk.1.1.2.1, hk.1.1.2.2⟩⟩)⟩, ⟨by (with_reducible repeat (first | apply Kd.R_alloc | apply Kd.R_drewN | apply Kd.R_drew)); exact Kd.R_mono (Kd.R_far (p := ⟨gb313, 1, none⟩) (Kd.R_far (p := ⟨gb313, 0, none⟩) (Kd.R_mono HO_61.out (fun k_ hk => (⟨hk, hk.2⟩ : _ ∧ k_ ≠ gb313))) (fun _ hk => hk.2) (.int .i64 ((rd_T35 t306 x69_3).f0))) (fun _ hk => hk.2) (.int .i64 ((rd_T35 t306 x69_3).f1))) (fun _ hk => ⟨hk.1.1.1, ⟨hk.1.1.2.1, ⟨hk.1.1.2.2.1, hk.1.1.2.2.2⟩⟩⟩)⟩, ⟨by (with_reducible repeat (first | apply Kd.R_alloc | apply Kd.R_drewN | apply Kd.R_drew)); exact Kd.R_mono (Kd.R_far (p := ⟨gb313, 1, none⟩) (Kd.R_far (p := ⟨gb313, 0, none⟩) (Kd.R_mono HO_67.out (fun k_ hk => (⟨hk, hk.2⟩ : _ ∧ k_ ≠ gb313))) (fun _ hk => hk.2) (.int .i64 ((rd_T35 t306 x69_3).f0))) (fun _ hk => hk.2) (.int .i64 ((rd_T35 t306 x69_3).f1))) (fun _ hk => ⟨hk.1.1.1, ⟨hk.1.1.2.1, hk.1.1.2.2⟩⟩)⟩, ⟨by (with_reducible repeat (first | refine blk_drewN ?_ _ | refine blk_drew ?_ | refine blk_alloc ?_ _)); refine blk_far ?_ NB292_313.out _; (with_reducible repeat (first | refine blk_drewN ?_ _ | refine blk_drew ?_ | refine blk_alloc ?_ _)); refine blk_far ?_ NB292_313.out _; (with_reducible repeat (first | refine blk_drewN ?_ _ | refine blk_drew ?_ | refine blk_alloc ?_ _)); exact BK292.out⟩, ⟨by (with_reducible repeat (first | refine blk_drewN ?_ _ | refine blk_drew ?_ | refine blk_alloc ?_ _)); refine blk_far ?_ NB311_313.out _; (with_reducible repeat (first | refine blk_drewN ?_ _ | refine blk_drew ?_ | refine blk_alloc ?_ _)); refine blk_far ?_ NB311_313.out _; (with_reducible repeat (first | refine blk_drewN ?_ _ | refine blk_drew ?_ | refine blk_alloc ?_ _)); exact BK311.out⟩, ⟨by repeat (first | (with_reducible first | exact HB.out | apply below_alloc | apply pw_below_drewN | apply below_drew1 | refine below_set ?_ GE292.out | refine below_set ?_ GE311.out | refine below_set ?_ GE313.out) | exact HB.out)⟩⟩)
                        | clear hm7_1
                          go_wp2
                          go_roundg k3
                          case measure => have := HJ17.out; have := HK2.out; have := HK3.out; omega
                          case rel => exact ⟨(wrap64 (x63_2 + 1)), (by first | rfl | (simp; done) | (simp [*]; done)), H', ⟨by have := HJ17.out; have := HK2.out; have := HK3.out; omega⟩, ⟨by (with_reducible repeat (first | apply Kd.R_alloc | apply Kd.R_drewN | apply Kd.R_drew)); exact Kd.R_mono HO_13.out (fun _ hk => ⟨hk.1, hk.2.1⟩)⟩, ⟨by (with_reducible repeat (first | apply Kd.R_alloc | apply Kd.R_drewN | apply Kd.R_drew)); exact Kd.R_mono HO_61.out (fun _ hk => ⟨hk.1, hk.2.1⟩)⟩, ⟨by (with_reducible repeat (first | refine blk_drewN ?_ _ | refine blk_drew ?_ | refine blk_alloc ?_ _)); exact BK292.out⟩, ⟨by repeat (first | (with_reducible first | exact HB.out | apply below_alloc | apply pw_below_drewN | apply below_drew1 | refine below_set ?_ GE292.out | refine below_set ?_ GE311.out) | exact HB.out)⟩⟩
                     | clear hm7_2
                       obtain rfl := Option.some.inj H
                       go_wp2
                       go_ret
                       exact ⟨by first | rfl | (simp [errW_none, errW_some] <;> rfl) | (simp [*, errW_none, errW_some] <;> rfl), by repeat (first | (with_reducible first | exact HB.out | apply below_alloc | apply pw_below_drewN | apply below_drew1 | refine below_set ?_ GE292.out | refine below_set ?_ GE311.out) | exact HB.out)⟩
               · rw [if_neg c37] at H
                 exact absurd H (by simp)
             · rw [if_neg c36] at H
               exact absurd H (by simp)
           · rw [if_neg c35] at H
             have c35b0 : decide (x63_2 < (t302.length : Int)) = false := decide_eq_false c35
             clear c35
             obtain rfl := Option.some.inj H
             go_wp2
             go_ret
             exact ⟨by first | rfl | (simp [errW_none, errW_some] <;> rfl) | (simp [*, errW_none, errW_some] <;> rfl), by repeat (first | (with_reducible first | exact HB.out | apply below_alloc | apply pw_below_drewN | apply below_drew1 | refine below_set ?_ GE292.out) | exact HB.out)⟩

/-- What is told of a value of struct type 56 that came in. -/
def good56 (x : S56) : Prop := ((Lit.int .i64 x.f0).wf = true) ∧ (Lit.int .i64 x.f1).wf = true
/-- What is told of a value of struct type 90 that came in. -/
def good90 (x : S90) : Prop := ((Lit.int .i64 x.f0).wf = true) ∧ (good56 x.f1) ∧ (Lit.int .i64 x.f2).wf = true
/-- What is told of a value of struct type 102 that came in. -/
def good102 (x : S102) : Prop := (good90 x.f0) ∧ ((Lit.int .i64 x.f1).wf = true) ∧ (Lit.int .i64 x.f2).wf = true
/-- What is told of a value of struct type 25 that came in. -/
def good25 (x : S25) : Prop := ((Lit.int .i64 x.f0).wf = true) ∧ (Lit.int .i64 x.f1).wf = true
/-- THE ONE PURE STATEMENT of skywaykeep1_ProbeWider. -/
def skywaykeep1_ProbeWider.Pure : Prop := ∀ (l0 : List (S102)) (l1 : List (S102)) (a2_0 : Int) (a2_1 : Int) (a3 : Int), (l0.length * 48 ≤ 140737488351232 ∧ ∀ y0 ∈ l0, good102 y0) → (l1.length * 48 ≤ 140737488351232 ∧ ∀ y0 ∈ l1, good102 y0) → ((Lit.int .i64 a2_0).wf = true) → ((Lit.int .i64 a2_1).wf = true) → ((Lit.int .i64 a3).wf = true) → ∃ k, skywaykeep1_ProbeWider.f k l0 l1 a2_0 a2_1 a3 = some true

end Go.Proofs.Yteaddpieonkboac.PProbeWider
