/- Made by a program of this session (wip/tools/myprint.py, over the kit's printer): that the Go functions answer as the Lean functions printed beside them. -/
import Derived.Test.YteaddpieonkboaaPPolygonMeetsx0
import Derived.Test.YteaddpieonkboaaPPolygonMeetsx1
import Derived.Test.YteaddpieonkboaaPPolygonMeetsx2
import Derived.Test.YteaddpieonkboaaPPolygonMeetsx7
import Derived.Test.YteaddpieonkboaaPPolygonMeetsx8
namespace Go.Proofs.Yteaddpieonkboaa.PPolygonMeets
open Go.RowKit Go.Proofs.YteaddpieonkboaaW.PrintWords Go.Proofs.YteaddpieonkboaaW.PrintLast Go.Proofs.YteaddpieonkboaaW.PrintMore
attribute [local go_sem] max2_int min2_int max_two min_two max_three min_three max_four min_four   -- for this text's walks alone
set_option linter.unusedVariables false
set_option linter.unusedSimpArgs false

attribute [local go_sem high] eqA25
/-! ### skywaykeep1_PolygonMeets: function 6 -/
mutual
def skywaykeep1_PolygonMeets.j0 : Nat → List (S25) → Bool → Int → Int → Bool → Int → Int → Int → Int → Option (Bool)
  | 0, _, _, _, _, _, _, _, _, _ => none
  | k + 1, x0, x7, x9, x11, x65, x240000, x240001, x241000, x241001 => if x65 = true then (some false) else (if x9 ≥ 0 then (skywaykeep1_PolygonMeets.j1 k x0 x7 true x240000 x240001 x241000 x241001) else (skywaykeep1_PolygonMeets.j1 k x0 x7 (decide (x11 ≥ 0)) x240000 x240001 x241000 x241001))
def skywaykeep1_PolygonMeets.j1 : Nat → List (S25) → Bool → Bool → Int → Int → Int → Int → Option (Bool)
  | 0, _, _, _, _, _, _, _ => none
  | k + 1, x0, x7, x71, x240000, x240001, x241000, x241001 => if x71 = true then (some x7) else (skywaykeep1_PolygonMeets.l0 k x0 x7 0 0 x0 (x0.length : Int) 0 x240000 x240001 x241000 x241001)
def skywaykeep1_PolygonMeets.l0 : Nat → List (S25) → Bool → Int → Int → List (S25) → Int → Int → Int → Int → Int → Int → Option (Bool)
  | 0, _, _, _, _, _, _, _, _, _, _, _ => none
  | k + 1, x0, x7, x15, x16, x73, x74, x75, x240000, x240001, x241000, x241001 => if x75 < x74 then (if 0 ≤ x75 then (if x75 < (x73.length : Int) then ((plane_Turn.f x240000 x240001 x241000 x241001 ((rd_T25 x73 x75).f0) ((rd_T25 x73 x75).f1)).bind fun t252 => (if t252 = 1 then (skywaykeep1_PolygonMeets.l0 k x0 x7 (wrap64 (x15 + 1)) x16 x73 x74 (wrap64 (x75 + 1)) x240000 x240001 x241000 x241001) else (if t252 = (-1) then (skywaykeep1_PolygonMeets.l0 k x0 x7 x15 (wrap64 (x16 + 1)) x73 x74 (wrap64 (x75 + 1)) x240000 x240001 x241000 x241001) else (skywaykeep1_PolygonMeets.l0 k x0 x7 x15 x16 x73 x74 (wrap64 (x75 + 1)) x240000 x240001 x241000 x241001)))) else (none)) else (none)) else (if (x240000 == x241000 && (x240001 == x241001)) = true then (if x7 = true then (some false) else (some true)) else (if x7 = true then (if x15 < (x0.length : Int) then (some (decide (x16 < (x0.length : Int)))) else (some false)) else (some true)))
end
def skywaykeep1_PolygonMeets.f (k : Nat) (l0 : List (S25)) (a1_0 : Int) (a1_1 : Int) (a2_0 : Int) (a2_1 : Int) : Option (Bool) := (skywaykeep1_polygonWorks.f k).bind fun t241 => (if t241 = true then ((polygon_Meets.f k l0 a1_0 a1_1 a2_0 a2_1).bind fun bt242 => (if bt242.2 = 0 then ((polygon_Locate.f k l0 a1_0 a1_1).bind fun bt244 => ((polygon_Locate.f k l0 a2_0 a2_1).bind fun bt246 => ((polygon_Meets.f k l0 a2_0 a2_1 a1_0 a1_1).bind fun bt248 => (if bt244.2 = 0 then (if bt246.2 = 0 then (if bt248.2 = 0 then (skywaykeep1_PolygonMeets.j0 k l0 bt242.1 bt244.1 bt246.1 (bt248.1 != bt242.1) a1_0 a1_1 a2_0 a2_1) else (skywaykeep1_PolygonMeets.j0 k l0 bt242.1 bt244.1 bt246.1 true a1_0 a1_1 a2_0 a2_1)) else (skywaykeep1_PolygonMeets.j0 k l0 bt242.1 bt244.1 bt246.1 true a1_0 a1_1 a2_0 a2_1)) else (skywaykeep1_PolygonMeets.j0 k l0 bt242.1 bt244.1 bt246.1 true a1_0 a1_1 a2_0 a2_1))))) else (some (!bt242.1)))) else (some false))
theorem skywaykeep1_PolygonMeets.mono_l : ∀ k, (∀ y0 y1 y2 y3 y4 y5 y6 y7 y8, LeO (skywaykeep1_PolygonMeets.j0 k y0 y1 y2 y3 y4 y5 y6 y7 y8) (skywaykeep1_PolygonMeets.j0 (k + 1) y0 y1 y2 y3 y4 y5 y6 y7 y8)) ∧ (∀ y0 y1 y2 y3 y4 y5 y6, LeO (skywaykeep1_PolygonMeets.j1 k y0 y1 y2 y3 y4 y5 y6) (skywaykeep1_PolygonMeets.j1 (k + 1) y0 y1 y2 y3 y4 y5 y6)) ∧ (∀ y0 y1 y2 y3 y4 y5 y6 y7 y8 y9 y10, LeO (skywaykeep1_PolygonMeets.l0 k y0 y1 y2 y3 y4 y5 y6 y7 y8 y9 y10) (skywaykeep1_PolygonMeets.l0 (k + 1) y0 y1 y2 y3 y4 y5 y6 y7 y8 y9 y10))
  | 0 => ⟨fun _ _ _ _ _ _ _ _ _ r h => by simp [skywaykeep1_PolygonMeets.j0] at h, fun _ _ _ _ _ _ _ r h => by simp [skywaykeep1_PolygonMeets.j1] at h, fun _ _ _ _ _ _ _ _ _ _ _ r h => by simp [skywaykeep1_PolygonMeets.l0] at h⟩
  | k + 1 => by
    obtain ⟨ih0, ih1, ih2⟩ := skywaykeep1_PolygonMeets.mono_l k
    refine ⟨?_, ?_, ?_⟩
    · intro y0 y1 y2 y3 y4 y5 y6 y7 y8
      unfold skywaykeep1_PolygonMeets.j0
      repeat' first
      | (with_reducible exact ih0 _ _ _ _ _ _ _ _ _)
      | (with_reducible exact ih1 _ _ _ _ _ _ _)
      | (with_reducible exact ih2 _ _ _ _ _ _ _ _ _ _ _)
      | (with_reducible exact polygon_Locate.mono _ _ _ _)
      | (with_reducible exact polygon_Meets.mono _ _ _ _ _ _)
      | (with_reducible exact skywaykeep1_polygonWorks.mono _)
      | (with_reducible exact LeO.refl _)
      | (with_reducible exact LeO.none _)
      | (with_reducible refine LeO.ite ?_ ?_)
      | (with_reducible refine LeO.bind ?_ (fun _ => ?_))
      | exact ih0 _ _ _ _ _ _ _ _ _
      | exact ih1 _ _ _ _ _ _ _
      | exact ih2 _ _ _ _ _ _ _ _ _ _ _
      | exact polygon_Locate.mono _ _ _ _
      | exact polygon_Meets.mono _ _ _ _ _ _
      | exact skywaykeep1_polygonWorks.mono _
      | exact LeO.none _
      | refine LeO.ite ?_ ?_
      | refine LeO.bind ?_ (fun _ => ?_)
    · intro y0 y1 y2 y3 y4 y5 y6
      unfold skywaykeep1_PolygonMeets.j1
      repeat' first
      | (with_reducible exact ih0 _ _ _ _ _ _ _ _ _)
      | (with_reducible exact ih1 _ _ _ _ _ _ _)
      | (with_reducible exact ih2 _ _ _ _ _ _ _ _ _ _ _)
      | (with_reducible exact polygon_Locate.mono _ _ _ _)
      | (with_reducible exact polygon_Meets.mono _ _ _ _ _ _)
      | (with_reducible exact skywaykeep1_polygonWorks.mono _)
      | (with_reducible exact LeO.refl _)
      | (with_reducible exact LeO.none _)
      | (with_reducible refine LeO.ite ?_ ?_)
      | (with_reducible refine LeO.bind ?_ (fun _ => ?_))
      | exact ih0 _ _ _ _ _ _ _ _ _
      | exact ih1 _ _ _ _ _ _ _
      | exact ih2 _ _ _ _ _ _ _ _ _ _ _
      | exact polygon_Locate.mono _ _ _ _
      | exact polygon_Meets.mono _ _ _ _ _ _
      | exact skywaykeep1_polygonWorks.mono _
      | exact LeO.none _
      | refine LeO.ite ?_ ?_
      | refine LeO.bind ?_ (fun _ => ?_)
    · intro y0 y1 y2 y3 y4 y5 y6 y7 y8 y9 y10
      unfold skywaykeep1_PolygonMeets.l0
      repeat' first
      | (with_reducible exact ih0 _ _ _ _ _ _ _ _ _)
      | (with_reducible exact ih1 _ _ _ _ _ _ _)
      | (with_reducible exact ih2 _ _ _ _ _ _ _ _ _ _ _)
      | (with_reducible exact polygon_Locate.mono _ _ _ _)
      | (with_reducible exact polygon_Meets.mono _ _ _ _ _ _)
      | (with_reducible exact skywaykeep1_polygonWorks.mono _)
      | (with_reducible exact LeO.refl _)
      | (with_reducible exact LeO.none _)
      | (with_reducible refine LeO.ite ?_ ?_)
      | (with_reducible refine LeO.bind ?_ (fun _ => ?_))
      | exact ih0 _ _ _ _ _ _ _ _ _
      | exact ih1 _ _ _ _ _ _ _
      | exact ih2 _ _ _ _ _ _ _ _ _ _ _
      | exact polygon_Locate.mono _ _ _ _
      | exact polygon_Meets.mono _ _ _ _ _ _
      | exact skywaykeep1_polygonWorks.mono _
      | exact LeO.none _
      | refine LeO.ite ?_ ?_
      | refine LeO.bind ?_ (fun _ => ?_)
theorem skywaykeep1_PolygonMeets.mono : ∀ a0 a1 a2 a3 a4 k, LeO (skywaykeep1_PolygonMeets.f k a0 a1 a2 a3 a4) (skywaykeep1_PolygonMeets.f (k + 1) a0 a1 a2 a3 a4) := by
  intro a0 a1 a2 a3 a4 k
  obtain ⟨ih0, ih1, ih2⟩ := skywaykeep1_PolygonMeets.mono_l k
  unfold skywaykeep1_PolygonMeets.f
  repeat' first
      | (with_reducible exact ih0 _ _ _ _ _ _ _ _ _)
      | (with_reducible exact ih1 _ _ _ _ _ _ _)
      | (with_reducible exact ih2 _ _ _ _ _ _ _ _ _ _ _)
      | (with_reducible exact polygon_Locate.mono _ _ _ _)
      | (with_reducible exact polygon_Meets.mono _ _ _ _ _ _)
      | (with_reducible exact skywaykeep1_polygonWorks.mono _)
      | (with_reducible exact LeO.refl _)
      | (with_reducible exact LeO.none _)
      | (with_reducible refine LeO.ite ?_ ?_)
      | (with_reducible refine LeO.bind ?_ (fun _ => ?_))
      | exact ih0 _ _ _ _ _ _ _ _ _
      | exact ih1 _ _ _ _ _ _ _
      | exact ih2 _ _ _ _ _ _ _ _ _ _ _
      | exact polygon_Locate.mono _ _ _ _
      | exact polygon_Meets.mono _ _ _ _ _ _
      | exact skywaykeep1_polygonWorks.mono _
      | exact LeO.none _
      | refine LeO.ite ?_ ?_
      | refine LeO.bind ?_ (fun _ => ?_)
set_option maxHeartbeats 8000000 in
set_option maxRecDepth 100000 in
theorem skywaykeep1_PolygonMeets.calls (k : Nat) (A0 : Option Addr) (c0 : Nat) (l0 : List (S25)) (a1_0 : Int) (a1_1 : Int) (a2_0 : Int) (a2_1 : Int) (r : Bool) (w : World) (hr0 : Kd.C k25 w A0 l0.length l0) (hc0 : l0.length ≤ c0) (h : skywaykeep1_PolygonMeets.f k l0 a1_0 a1_1 a2_0 a2_1 = some r) :
    Calls Try.prog 6 #[.slice A0 l0.length c0, .agg #[.int .i64 a1_0, .int .i64 a1_1], .agg #[.int .i64 a2_0, .int .i64 a2_1]] w fun e w' => e = .returned (.bool r) ∧ Below w.heap.size w w' := by
 have hu25 := Try.underlying25
 have HR0 := Aside0.mk hr0; have HC0 := Aside0.mk hc0; clear hr0 hc0
 have HB := Aside0.mk (Below.refl w.heap.size w)
 have H : ((skywaykeep1_polygonWorks.f k).bind fun t241 => (if t241 = true then ((polygon_Meets.f k l0 a1_0 a1_1 a2_0 a2_1).bind fun bt242 => (if bt242.2 = 0 then ((polygon_Locate.f k l0 a1_0 a1_1).bind fun bt244 => ((polygon_Locate.f k l0 a2_0 a2_1).bind fun bt246 => ((polygon_Meets.f k l0 a2_0 a2_1 a1_0 a1_1).bind fun bt248 => (if bt244.2 = 0 then (if bt246.2 = 0 then (if bt248.2 = 0 then (skywaykeep1_PolygonMeets.j0 k l0 bt242.1 bt244.1 bt246.1 (bt248.1 != bt242.1) a1_0 a1_1 a2_0 a2_1) else (skywaykeep1_PolygonMeets.j0 k l0 bt242.1 bt244.1 bt246.1 true a1_0 a1_1 a2_0 a2_1)) else (skywaykeep1_PolygonMeets.j0 k l0 bt242.1 bt244.1 bt246.1 true a1_0 a1_1 a2_0 a2_1)) else (skywaykeep1_PolygonMeets.j0 k l0 bt242.1 bt244.1 bt246.1 true a1_0 a1_1 a2_0 a2_1))))) else (some (!bt242.1)))) else (some false))) = some r := h
 clear h
 replace H := Option.bind_eq_some_iff.mp H
 obtain ⟨t241, A40, H⟩ := H
 replace H : (if t241 = true then ((polygon_Meets.f k l0 a1_0 a1_1 a2_0 a2_1).bind fun bt242 => (if bt242.2 = 0 then ((polygon_Locate.f k l0 a1_0 a1_1).bind fun bt244 => ((polygon_Locate.f k l0 a2_0 a2_1).bind fun bt246 => ((polygon_Meets.f k l0 a2_0 a2_1 a1_0 a1_1).bind fun bt248 => (if bt244.2 = 0 then (if bt246.2 = 0 then (if bt248.2 = 0 then (skywaykeep1_PolygonMeets.j0 k l0 bt242.1 bt244.1 bt246.1 (bt248.1 != bt242.1) a1_0 a1_1 a2_0 a2_1) else (skywaykeep1_PolygonMeets.j0 k l0 bt242.1 bt244.1 bt246.1 true a1_0 a1_1 a2_0 a2_1)) else (skywaykeep1_PolygonMeets.j0 k l0 bt242.1 bt244.1 bt246.1 true a1_0 a1_1 a2_0 a2_1)) else (skywaykeep1_PolygonMeets.j0 k l0 bt242.1 bt244.1 bt246.1 true a1_0 a1_1 a2_0 a2_1))))) else (some (!bt242.1)))) else (some false)) = some r := H
 have A4 := Aside0.mk A40; clear A40
 refine Or.elim (Classical.em (t241 = true)) (fun c5 => ?p2_) (fun c5 => ?n2_)
 case' p2_ =>
  subst c5
  have H1 : ((polygon_Meets.f k l0 a1_0 a1_1 a2_0 a2_1).bind fun bt242 => (if bt242.2 = 0 then ((polygon_Locate.f k l0 a1_0 a1_1).bind fun bt244 => ((polygon_Locate.f k l0 a2_0 a2_1).bind fun bt246 => ((polygon_Meets.f k l0 a2_0 a2_1 a1_0 a1_1).bind fun bt248 => (if bt244.2 = 0 then (if bt246.2 = 0 then (if bt248.2 = 0 then (skywaykeep1_PolygonMeets.j0 k l0 bt242.1 bt244.1 bt246.1 (bt248.1 != bt242.1) a1_0 a1_1 a2_0 a2_1) else (skywaykeep1_PolygonMeets.j0 k l0 bt242.1 bt244.1 bt246.1 true a1_0 a1_1 a2_0 a2_1)) else (skywaykeep1_PolygonMeets.j0 k l0 bt242.1 bt244.1 bt246.1 true a1_0 a1_1 a2_0 a2_1)) else (skywaykeep1_PolygonMeets.j0 k l0 bt242.1 bt244.1 bt246.1 true a1_0 a1_1 a2_0 a2_1))))) else (some (!bt242.1)))) = some r := by rw [if_pos rfl] at H; exact H
  clear H; have H := H1; clear H1
  replace H := Option.bind_eq_some_iff.mp H
  obtain ⟨⟨t242, t243⟩, A60, H⟩ := H
  replace H : (if t243 = 0 then ((polygon_Locate.f k l0 a1_0 a1_1).bind fun bt244 => ((polygon_Locate.f k l0 a2_0 a2_1).bind fun bt246 => ((polygon_Meets.f k l0 a2_0 a2_1 a1_0 a1_1).bind fun bt248 => (if bt244.2 = 0 then (if bt246.2 = 0 then (if bt248.2 = 0 then (skywaykeep1_PolygonMeets.j0 k l0 t242 bt244.1 bt246.1 (bt248.1 != t242) a1_0 a1_1 a2_0 a2_1) else (skywaykeep1_PolygonMeets.j0 k l0 t242 bt244.1 bt246.1 true a1_0 a1_1 a2_0 a2_1)) else (skywaykeep1_PolygonMeets.j0 k l0 t242 bt244.1 bt246.1 true a1_0 a1_1 a2_0 a2_1)) else (skywaykeep1_PolygonMeets.j0 k l0 t242 bt244.1 bt246.1 true a1_0 a1_1 a2_0 a2_1))))) else (some (!t242))) = some r := H
  have A6 := Aside0.mk A60; clear A60
  refine Or.elim (Classical.em (t243 = 0)) (fun c7 => ?p3_) (fun c7 => ?n3_)
  case' p3_ =>
   rw [if_pos c7] at H
   have c7b0 : (t243 == 0) = true := beq_iff_eq.mpr c7
   have c7b1 : (t243 != 0) = false := bne_eq_false_iff_eq.mpr c7
   clear c7
   replace H := Option.bind_eq_some_iff.mp H
   obtain ⟨⟨t244, t245⟩, A80, H⟩ := H
   replace H : ((polygon_Locate.f k l0 a2_0 a2_1).bind fun bt246 => ((polygon_Meets.f k l0 a2_0 a2_1 a1_0 a1_1).bind fun bt248 => (if t245 = 0 then (if bt246.2 = 0 then (if bt248.2 = 0 then (skywaykeep1_PolygonMeets.j0 k l0 t242 t244 bt246.1 (bt248.1 != t242) a1_0 a1_1 a2_0 a2_1) else (skywaykeep1_PolygonMeets.j0 k l0 t242 t244 bt246.1 true a1_0 a1_1 a2_0 a2_1)) else (skywaykeep1_PolygonMeets.j0 k l0 t242 t244 bt246.1 true a1_0 a1_1 a2_0 a2_1)) else (skywaykeep1_PolygonMeets.j0 k l0 t242 t244 bt246.1 true a1_0 a1_1 a2_0 a2_1)))) = some r := H
   have A8 := Aside0.mk A80; clear A80
   replace H := Option.bind_eq_some_iff.mp H
   obtain ⟨⟨t246, t247⟩, A90, H⟩ := H
   replace H : ((polygon_Meets.f k l0 a2_0 a2_1 a1_0 a1_1).bind fun bt248 => (if t245 = 0 then (if t247 = 0 then (if bt248.2 = 0 then (skywaykeep1_PolygonMeets.j0 k l0 t242 t244 t246 (bt248.1 != t242) a1_0 a1_1 a2_0 a2_1) else (skywaykeep1_PolygonMeets.j0 k l0 t242 t244 t246 true a1_0 a1_1 a2_0 a2_1)) else (skywaykeep1_PolygonMeets.j0 k l0 t242 t244 t246 true a1_0 a1_1 a2_0 a2_1)) else (skywaykeep1_PolygonMeets.j0 k l0 t242 t244 t246 true a1_0 a1_1 a2_0 a2_1))) = some r := H
   have A9 := Aside0.mk A90; clear A90
   replace H := Option.bind_eq_some_iff.mp H
   obtain ⟨⟨t248, t249⟩, A100, H⟩ := H
   replace H : (if t245 = 0 then (if t247 = 0 then (if t249 = 0 then (skywaykeep1_PolygonMeets.j0 k l0 t242 t244 t246 (t248 != t242) a1_0 a1_1 a2_0 a2_1) else (skywaykeep1_PolygonMeets.j0 k l0 t242 t244 t246 true a1_0 a1_1 a2_0 a2_1)) else (skywaykeep1_PolygonMeets.j0 k l0 t242 t244 t246 true a1_0 a1_1 a2_0 a2_1)) else (skywaykeep1_PolygonMeets.j0 k l0 t242 t244 t246 true a1_0 a1_1 a2_0 a2_1)) = some r := H
   have A10 := Aside0.mk A100; clear A100; have HC11 := Aside0.mk H; clear H; have hm1_0 := Aside0.mk trivial
  case' n3_ =>
   rw [if_neg c7] at H
   have c7b0 : (t243 == 0) = false := beq_eq_false_iff_ne.mpr c7
   have c7b1 : (t243 != 0) = true := bne_iff_ne.mpr c7
   have hm1_1 := Aside0.mk trivial
 case' n2_ =>
  replace c5 := Bool.eq_false_iff.mpr c5
  subst c5
  have H1 : (some false) = some r := by rw [if_neg (show ¬ (false = true) by decide)] at H; exact H
  clear H; have H := H1; clear H1; have hm1_1 := Aside0.mk trivial
 all_goals
  first
   | clear hm1_0
     go_enter Try.func6, Try.ntmps6
     go_upto_region 9 with (first | ((with_reducible refine gate_dst (N := 4) rfl ?_); refine box_event ?hg (N := 4) ?hd (cs := #[.int .i64 a1_0, .int .i64 a1_1]) (t := 25) ?hr ?_; (case hd => rfl); (case hg => rfl); (case hr => first | (go_simp; done) | (go_simp; rfl)); intro gb239 hg wx8bb71 hbox hb; have n0_ := Aside0.mk (below_step (by repeat (first | (with_reducible first | exact HB.out | apply below_alloc | apply pw_below_drewN | apply below_drew1) | exact HB.out)) hb); have n1_ := Aside0.mk (hbox); have n2_ := Aside0.mk ((by rw [hg]; exact (below_size (by repeat (first | (with_reducible first | exact HB.out | apply below_alloc | apply pw_below_drewN | apply below_drew1) | exact HB.out))) : w.heap.size ≤ gb239)); have n3_ := Aside0.mk ((by rw [hg]; exact (below_size (by repeat (first | (with_reducible first | exact HB.out | apply below_alloc | apply pw_below_drewN | apply below_drew1) | exact HB.out))) : w.heap.size ≤ gb239)); clear HB; have HB := n0_; have BK239 := n1_; have GW239 := n2_; have GE239 := n3_; clear n0_ n1_ n2_ n3_; clear hb hbox hg) | ((with_reducible refine gate_dst (N := 5) rfl ?_); refine box_event ?hg (N := 5) ?hd (cs := #[.int .i64 a2_0, .int .i64 a2_1]) (t := 25) ?hr ?_; (case hd => rfl); (case hg => rfl); (case hr => first | (go_simp; done) | (go_simp; rfl)); intro gb240 hg wx738c1 hbox hb; have n0_ := Aside0.mk (blk_below (g := gb239) (o := .cells #[.int .i64 a1_0, .int .i64 a1_1] 25 (0, 0)) (by (with_reducible repeat (first | refine blk_drewN ?_ _ | refine blk_drew ?_ | refine blk_alloc ?_ _)); exact BK239.out) hb); have n1_ := Aside0.mk (below_step (by repeat (first | (with_reducible first | exact HB.out | apply below_alloc | apply pw_below_drewN | apply below_drew1 | refine below_set ?_ GE239.out) | exact HB.out)) hb); have n2_ := Aside0.mk (hbox); have n3_ := Aside0.mk ((by rw [hg]; exact (below_size (by repeat (first | (with_reducible first | exact HB.out | apply below_alloc | apply pw_below_drewN | apply below_drew1 | refine below_set ?_ GE239.out) | exact HB.out))) : w.heap.size ≤ gb240)); have n4_ := Aside0.mk ((by rw [hg]; exact (below_size (by repeat (first | (with_reducible first | exact HB.out | apply below_alloc | apply pw_below_drewN | apply below_drew1 | refine below_set ?_ GE239.out) | exact HB.out))) : w.heap.size ≤ gb240)); have n5_ := Aside0.mk ((by rw [hg]; exact Nat.ne_of_lt (blk_lt (g := gb239) (o := .cells #[.int .i64 a1_0, .int .i64 a1_1] 25 (0, 0)) (by (with_reducible repeat (first | refine blk_drewN ?_ _ | refine blk_drew ?_ | refine blk_alloc ?_ _)); exact BK239.out)) : gb239 ≠ gb240)); have n6_ := Aside0.mk ((by rw [hg]; exact Nat.ne_of_gt (blk_lt (g := gb239) (o := .cells #[.int .i64 a1_0, .int .i64 a1_1] 25 (0, 0)) (by (with_reducible repeat (first | refine blk_drewN ?_ _ | refine blk_drew ?_ | refine blk_alloc ?_ _)); exact BK239.out)) : gb240 ≠ gb239)); clear BK239; clear HB; have BK239 := n0_; have HB := n1_; have BK240 := n2_; have GW240 := n3_; have GE240 := n4_; have NB239_240 := n5_; have NB240_239 := n6_; clear n0_ n1_ n2_ n3_ n4_ n5_ n6_; clear hb hbox hg) | ((with_reducible refine gate_callee (f := 15) rfl ?_); refine goesL_ (some 19) rfl rfl Try.func15 (by kernel_rfl) rfl #[] rfl (by (try simp only [List.map_toArray, List.map_cons, List.map_nil]); first | done | rfl | (simp only [List.length_drop, List.length_take]; rfl)) ?_; (with_reducible refine (skywaykeep1_polygonWorks.calls k  true _ A4.out).mono ?_); rintro e wxcf2c1 ⟨rfl, hb⟩; refine ⟨_, rfl, ?_⟩; have n0_ := Aside0.mk (blk_below (g := gb239) (o := .cells #[.int .i64 a1_0, .int .i64 a1_1] 25 (0, 0)) (by (with_reducible repeat (first | refine blk_drewN ?_ _ | refine blk_drew ?_ | refine blk_alloc ?_ _)); exact BK239.out) hb); have n1_ := Aside0.mk (blk_below (g := gb240) (o := .cells #[.int .i64 a2_0, .int .i64 a2_1] 25 (0, 0)) (by (with_reducible repeat (first | refine blk_drewN ?_ _ | refine blk_drew ?_ | refine blk_alloc ?_ _)); exact BK240.out) hb); have n2_ := Aside0.mk (below_step (by repeat (first | (with_reducible first | exact HB.out | apply below_alloc | apply pw_below_drewN | apply below_drew1 | refine below_set ?_ GE239.out | refine below_set ?_ GE240.out) | exact HB.out)) hb); clear BK239; clear BK240; clear HB; have BK239 := n0_; have BK240 := n1_; have HB := n2_; clear n0_ n1_ n2_; (try clear hb); (try clear hb2); (try clear hk); (try clear hi); have hnbxcf2c1 := NB239_240.out; have hncxcf2c1 := NB240_239.out; have hczxcf2c1 : wxcf2c1.cell? ⟨gb239, 0, none⟩ = some (.int .i64 a1_0) := (blk_cell BK239.out 0).trans rfl; have hczxcf2c2 : wxcf2c1.cell? ⟨gb239, 1, none⟩ = some (.int .i64 a1_1) := (blk_cell BK239.out 1).trans rfl; have hfzxcf2c1 := blk_frozen BK239.out 0; have hfzxcf2c2 := blk_frozen BK239.out 1; have hczxcf2c3 : wxcf2c1.cell? ⟨gb240, 0, none⟩ = some (.int .i64 a2_0) := (blk_cell BK240.out 0).trans rfl; have hczxcf2c4 : wxcf2c1.cell? ⟨gb240, 1, none⟩ = some (.int .i64 a2_1) := (blk_cell BK240.out 1).trans rfl; have hfzxcf2c3 := blk_frozen BK240.out 0; have hfzxcf2c4 := blk_frozen BK240.out 1) | ((with_reducible refine gate_callee (f := 24) rfl ?_); refine goesL_ (some 25) rfl rfl Try.func24 (by kernel_rfl) rfl #[.slice A0 l0.length c0, .agg #[.int .i64 a1_0, .int .i64 a1_1], .agg #[.int .i64 a2_0, .int .i64 a2_1]] rfl (by (try simp only [List.map_toArray, List.map_cons, List.map_nil]); first | done | rfl | (simp only [List.length_drop, List.length_take]; rfl)) ?_; (with_reducible refine (polygon_Meets.calls k _ _ l0 a1_0 a1_1 a2_0 a2_1 t242 t243 _ ?side1 ?side2 A6.out).mono ?_); (case side1 => repeat (first | exact (Kd.C_below HR0.out HB.out) | (with_reducible refine Kd.C_alloc ?_ _) | (with_reducible refine Kd.C_drewN ?_ _) | (with_reducible refine Kd.C_drew ?_))); (case side2 => exact HC0.out); rintro e wx43d91 ⟨rfl, hb⟩; refine ⟨_, rfl, ?_⟩; have n0_ := Aside0.mk (blk_below (g := gb239) (o := .cells #[.int .i64 a1_0, .int .i64 a1_1] 25 (0, 0)) (by (with_reducible repeat (first | refine blk_drewN ?_ _ | refine blk_drew ?_ | refine blk_alloc ?_ _)); exact BK239.out) hb); have n1_ := Aside0.mk (blk_below (g := gb240) (o := .cells #[.int .i64 a2_0, .int .i64 a2_1] 25 (0, 0)) (by (with_reducible repeat (first | refine blk_drewN ?_ _ | refine blk_drew ?_ | refine blk_alloc ?_ _)); exact BK240.out) hb); have n2_ := Aside0.mk (below_step (by repeat (first | (with_reducible first | exact HB.out | apply below_alloc | apply pw_below_drewN | apply below_drew1 | refine below_set ?_ GE239.out | refine below_set ?_ GE240.out) | exact HB.out)) hb); clear BK239; clear BK240; clear HB; have BK239 := n0_; have BK240 := n1_; have HB := n2_; clear n0_ n1_ n2_; (try clear hb); (try clear hb2); (try clear hk); (try clear hi); have hczx43d91 : wx43d91.cell? ⟨gb239, 0, none⟩ = some (.int .i64 a1_0) := (blk_cell BK239.out 0).trans rfl; have hczx43d92 : wx43d91.cell? ⟨gb239, 1, none⟩ = some (.int .i64 a1_1) := (blk_cell BK239.out 1).trans rfl; have hfzx43d91 := blk_frozen BK239.out 0; have hfzx43d92 := blk_frozen BK239.out 1) | ((with_reducible refine gate_callee (f := 17) rfl ?_); refine goesL_ (some 35) rfl rfl Try.func17 (by kernel_rfl) rfl #[.slice A0 l0.length c0, .agg #[.int .i64 a1_0, .int .i64 a1_1]] rfl (by (try simp only [List.map_toArray, List.map_cons, List.map_nil]); first | done | rfl | (simp only [List.length_drop, List.length_take]; rfl)) ?_; (with_reducible refine (polygon_Locate.calls k _ _ l0 a1_0 a1_1 t244 t245 _ ?side1 ?side2 A8.out).mono ?_); (case side1 => repeat (first | exact (Kd.C_below HR0.out HB.out) | (with_reducible refine Kd.C_alloc ?_ _) | (with_reducible refine Kd.C_drewN ?_ _) | (with_reducible refine Kd.C_drew ?_))); (case side2 => exact HC0.out); rintro e wx8f5f1 ⟨rfl, hb⟩; refine ⟨_, rfl, ?_⟩; have n0_ := Aside0.mk (blk_below (g := gb239) (o := .cells #[.int .i64 a1_0, .int .i64 a1_1] 25 (0, 0)) (by (with_reducible repeat (first | refine blk_drewN ?_ _ | refine blk_drew ?_ | refine blk_alloc ?_ _)); exact BK239.out) hb); have n1_ := Aside0.mk (blk_below (g := gb240) (o := .cells #[.int .i64 a2_0, .int .i64 a2_1] 25 (0, 0)) (by (with_reducible repeat (first | refine blk_drewN ?_ _ | refine blk_drew ?_ | refine blk_alloc ?_ _)); exact BK240.out) hb); have n2_ := Aside0.mk (below_step (by repeat (first | (with_reducible first | exact HB.out | apply below_alloc | apply pw_below_drewN | apply below_drew1 | refine below_set ?_ GE239.out | refine below_set ?_ GE240.out) | exact HB.out)) hb); clear BK239; clear BK240; clear HB; have BK239 := n0_; have BK240 := n1_; have HB := n2_; clear n0_ n1_ n2_; (try clear hb); (try clear hb2); (try clear hk); (try clear hi); have hczx8f5f1 : wx8f5f1.cell? ⟨gb240, 0, none⟩ = some (.int .i64 a2_0) := (blk_cell BK240.out 0).trans rfl; have hczx8f5f2 : wx8f5f1.cell? ⟨gb240, 1, none⟩ = some (.int .i64 a2_1) := (blk_cell BK240.out 1).trans rfl; have hfzx8f5f1 := blk_frozen BK240.out 0; have hfzx8f5f2 := blk_frozen BK240.out 1) | ((with_reducible refine gate_callee (f := 17) rfl ?_); refine goesL_ (some 41) rfl rfl Try.func17 (by kernel_rfl) rfl #[.slice A0 l0.length c0, .agg #[.int .i64 a2_0, .int .i64 a2_1]] rfl (by (try simp only [List.map_toArray, List.map_cons, List.map_nil]); first | done | rfl | (simp only [List.length_drop, List.length_take]; rfl)) ?_; (with_reducible refine (polygon_Locate.calls k _ _ l0 a2_0 a2_1 t246 t247 _ ?side1 ?side2 A9.out).mono ?_); (case side1 => repeat (first | exact (Kd.C_below HR0.out HB.out) | (with_reducible refine Kd.C_alloc ?_ _) | (with_reducible refine Kd.C_drewN ?_ _) | (with_reducible refine Kd.C_drew ?_))); (case side2 => exact HC0.out); rintro e wx960a1 ⟨rfl, hb⟩; refine ⟨_, rfl, ?_⟩; have n0_ := Aside0.mk (blk_below (g := gb239) (o := .cells #[.int .i64 a1_0, .int .i64 a1_1] 25 (0, 0)) (by (with_reducible repeat (first | refine blk_drewN ?_ _ | refine blk_drew ?_ | refine blk_alloc ?_ _)); exact BK239.out) hb); have n1_ := Aside0.mk (blk_below (g := gb240) (o := .cells #[.int .i64 a2_0, .int .i64 a2_1] 25 (0, 0)) (by (with_reducible repeat (first | refine blk_drewN ?_ _ | refine blk_drew ?_ | refine blk_alloc ?_ _)); exact BK240.out) hb); have n2_ := Aside0.mk (below_step (by repeat (first | (with_reducible first | exact HB.out | apply below_alloc | apply pw_below_drewN | apply below_drew1 | refine below_set ?_ GE239.out | refine below_set ?_ GE240.out) | exact HB.out)) hb); clear BK239; clear BK240; clear HB; have BK239 := n0_; have BK240 := n1_; have HB := n2_; clear n0_ n1_ n2_; (try clear hb); (try clear hb2); (try clear hk); (try clear hi); have hczx960a1 : wx960a1.cell? ⟨gb240, 0, none⟩ = some (.int .i64 a2_0) := (blk_cell BK240.out 0).trans rfl; have hczx960a2 : wx960a1.cell? ⟨gb240, 1, none⟩ = some (.int .i64 a2_1) := (blk_cell BK240.out 1).trans rfl; have hfzx960a1 := blk_frozen BK240.out 0; have hfzx960a2 := blk_frozen BK240.out 1; have hczx960a3 : wx960a1.cell? ⟨gb239, 0, none⟩ = some (.int .i64 a1_0) := (blk_cell BK239.out 0).trans rfl; have hczx960a4 : wx960a1.cell? ⟨gb239, 1, none⟩ = some (.int .i64 a1_1) := (blk_cell BK239.out 1).trans rfl; have hfzx960a3 := blk_frozen BK239.out 0; have hfzx960a4 := blk_frozen BK239.out 1) | ((with_reducible refine gate_callee (f := 24) rfl ?_); refine goesL_ (some 48) rfl rfl Try.func24 (by kernel_rfl) rfl #[.slice A0 l0.length c0, .agg #[.int .i64 a2_0, .int .i64 a2_1], .agg #[.int .i64 a1_0, .int .i64 a1_1]] rfl (by (try simp only [List.map_toArray, List.map_cons, List.map_nil]); first | done | rfl | (simp only [List.length_drop, List.length_take]; rfl)) ?_; (with_reducible refine (polygon_Meets.calls k _ _ l0 a2_0 a2_1 a1_0 a1_1 t248 t249 _ ?side1 ?side2 A10.out).mono ?_); (case side1 => repeat (first | exact (Kd.C_below HR0.out HB.out) | (with_reducible refine Kd.C_alloc ?_ _) | (with_reducible refine Kd.C_drewN ?_ _) | (with_reducible refine Kd.C_drew ?_))); (case side2 => exact HC0.out); rintro e wx0cb11 ⟨rfl, hb⟩; refine ⟨_, rfl, ?_⟩; have n0_ := Aside0.mk (blk_below (g := gb239) (o := .cells #[.int .i64 a1_0, .int .i64 a1_1] 25 (0, 0)) (by (with_reducible repeat (first | refine blk_drewN ?_ _ | refine blk_drew ?_ | refine blk_alloc ?_ _)); exact BK239.out) hb); have n1_ := Aside0.mk (blk_below (g := gb240) (o := .cells #[.int .i64 a2_0, .int .i64 a2_1] 25 (0, 0)) (by (with_reducible repeat (first | refine blk_drewN ?_ _ | refine blk_drew ?_ | refine blk_alloc ?_ _)); exact BK240.out) hb); have n2_ := Aside0.mk (below_step (by repeat (first | (with_reducible first | exact HB.out | apply below_alloc | apply pw_below_drewN | apply below_drew1 | refine below_set ?_ GE239.out | refine below_set ?_ GE240.out) | exact HB.out)) hb); clear BK239; clear BK240; clear HB; have BK239 := n0_; have BK240 := n1_; have HB := n2_; clear n0_ n1_ n2_; (try clear hb); (try clear hb2); (try clear hk); (try clear hi)))
     (try simp only [Act.put, List.setIfInBounds_toArray, List.set_cons_zero, List.set_cons_succ])
     go_cut [65] (fun v65 wc => ∃ (kq : Nat) (x65_10 : Bool), v65 = .bool x65_10 ∧ Aside0 (skywaykeep1_PolygonMeets.j0 kq l0 t242 t244 t246 x65_10 a1_0 a1_1 a2_0 a2_1 = some r) ∧ Aside0 (kq ≤ k) ∧ Aside0 (wc.heap[gb239]? = some (.cells #[.int .i64 a1_0, .int .i64 a1_1] 25 (0, 0))) ∧ Aside0 (wc.heap[gb240]? = some (.cells #[.int .i64 a2_0, .int .i64 a2_1] 25 (0, 0))) ∧ Aside0 (Below w.heap.size w wc))
     case first =>
      have H := HC11.out; clear HC11
      refine Or.elim (Classical.em (t245 = 0)) (fun c26 => ?p5_) (fun c26 => ?n5_)
      case' p5_ =>
       rw [if_pos c26] at H
       have c26b0 : (t245 == 0) = true := beq_iff_eq.mpr c26
       have c26b1 : (t245 != 0) = false := bne_eq_false_iff_eq.mpr c26
       clear c26
       (first | rw [c26b0] | (simp only [i64_w, i32_w]; rw [c26b0]) | skip)
       refine Or.elim (Classical.em (t247 = 0)) (fun c27 => ?p6_) (fun c27 => ?n6_)
       case' p6_ =>
        rw [if_pos c27] at H
        have c27b0 : (t247 == 0) = true := beq_iff_eq.mpr c27
        have c27b1 : (t247 != 0) = false := bne_eq_false_iff_eq.mpr c27
        clear c27
        refine Or.elim (Classical.em (t249 = 0)) (fun c28 => ?p7_) (fun c28 => ?n7_)
        case' p7_ =>
         rw [if_pos c28] at H
         have c28b0 : (t249 == 0) = true := beq_iff_eq.mpr c28
         have c28b1 : (t249 != 0) = false := bne_eq_false_iff_eq.mpr c28
         clear c28
        case' n7_ =>
         rw [if_neg c28] at H
         have c28b0 : (t249 == 0) = false := beq_eq_false_iff_ne.mpr c28
         have c28b1 : (t249 != 0) = true := bne_iff_ne.mpr c28
       case' n6_ =>
        rw [if_neg c27] at H
        have c27b0 : (t247 == 0) = false := beq_eq_false_iff_ne.mpr c27
        have c27b1 : (t247 != 0) = true := bne_iff_ne.mpr c27
      case' n5_ =>
       rw [if_neg c26] at H
       have c26b0 : (t245 == 0) = false := beq_eq_false_iff_ne.mpr c26
       have c26b1 : (t245 != 0) = true := bne_iff_ne.mpr c26
       (first | rw [c26b0] | (simp only [i64_w, i32_w]; rw [c26b0]) | skip)
      all_goals
       have H' := Aside0.mk H
       clear H; go_wp2
       go_meet
       case rel => first | (exact ⟨_, ((t248 != t242)), (by first | rfl | (simp; done) | (simp [*]; done)), H', ⟨by first | omega | exact Nat.le_refl _⟩, ⟨by (with_reducible repeat (first | refine blk_drewN ?_ _ | refine blk_drew ?_ | refine blk_alloc ?_ _)); exact BK239.out⟩, ⟨by (with_reducible repeat (first | refine blk_drewN ?_ _ | refine blk_drew ?_ | refine blk_alloc ?_ _)); exact BK240.out⟩, ⟨by repeat (first | (with_reducible first | exact HB.out | apply below_alloc | apply pw_below_drewN | apply below_drew1 | refine below_set ?_ GE239.out | refine below_set ?_ GE240.out) | exact HB.out)⟩⟩) | (exact ⟨_, (true), (by first | rfl | (simp; done) | (simp [*]; done)), H', ⟨by first | omega | exact Nat.le_refl _⟩, ⟨by (with_reducible repeat (first | refine blk_drewN ?_ _ | refine blk_drew ?_ | refine blk_alloc ?_ _)); exact BK239.out⟩, ⟨by (with_reducible repeat (first | refine blk_drewN ?_ _ | refine blk_drew ?_ | refine blk_alloc ?_ _)); exact BK240.out⟩, ⟨by repeat (first | (with_reducible first | exact HB.out | apply below_alloc | apply pw_below_drewN | apply below_drew1 | refine below_set ?_ GE239.out | refine below_set ?_ GE240.out) | exact HB.out)⟩⟩)
     case rest =>
      clear HC11
      (try clear c1); (try clear p1); (try clear c2); (try clear p2); (try clear c5); (try clear c6); (try clear c7); (try clear c7b0); (try clear c7b1); (try clear c15); (try clear c17); (try clear c24); (try clear c26); (try clear c26b0); (try clear c26b1); (try clear c27); (try clear c27b0); (try clear c27b1); (try clear c28); (try clear c28b0); (try clear c28b1); (try clear hczxcf2c1); (try clear hczxcf2c2); (try clear hczxcf2c3); (try clear hczxcf2c4); (try clear hczx43d91); (try clear hczx43d92); (try clear hczx8f5f1); (try clear hczx8f5f2); (try clear hczx960a1); (try clear hczx960a2); (try clear hczx960a3); (try clear hczx960a4); (try clear hfzxcf2c1); (try clear hfzxcf2c2); (try clear hfzxcf2c3); (try clear hfzxcf2c4); (try clear hfzx43d91); (try clear hfzx43d92); (try clear hfzx8f5f1)
      (try clear hfzx8f5f2); (try clear hfzx960a1); (try clear hfzx960a2); (try clear hfzx960a3); (try clear hfzx960a4)
      obtain ⟨kq, x65_10, rfl, HA, HJ10, BK239, BK240, HB⟩ := hcut
      cases kq with
      | zero => exact absurd HA.out (by simp [skywaykeep1_PolygonMeets.j0])
      | succ kj10 =>
       have H := HA.out; clear HA
       simp only [skywaykeep1_PolygonMeets.j0] at H
       by_cases c29 : x65_10 = true
       · subst c29
         have H1 : (some false) = some r := by rw [if_pos rfl] at H; exact H
         clear H; have H := H1; clear H1; obtain rfl := Option.some.inj H; go_wp2; go_ret
         exact ⟨by first | rfl | (simp [errW_none, errW_some] <;> rfl) | (simp [*, errW_none, errW_some] <;> rfl), by repeat (first | (with_reducible first | exact HB.out | apply below_alloc | apply pw_below_drewN | apply below_drew1 | refine below_set ?_ GE239.out | refine below_set ?_ GE240.out) | exact HB.out)⟩
       · replace c29 := Bool.eq_false_iff.mpr c29
         subst c29
         have H1 : (if t244 ≥ 0 then (skywaykeep1_PolygonMeets.j1 kj10 l0 t242 true a1_0 a1_1 a2_0 a2_1) else (skywaykeep1_PolygonMeets.j1 kj10 l0 t242 (decide (t246 ≥ 0)) a1_0 a1_1 a2_0 a2_1)) = some r := by rw [if_neg (show ¬ (false = true) by decide)] at H; exact H
         clear H; have H := H1; clear H1; have HC30 := Aside0.mk H; clear H
         go_upto_region 11 with (fail)
         go_cut [71] (fun v71 wc => ∃ (kq : Nat) (x71_29 : Bool), v71 = .bool x71_29 ∧ Aside0 (skywaykeep1_PolygonMeets.j1 kq l0 t242 x71_29 a1_0 a1_1 a2_0 a2_1 = some r) ∧ Aside0 (kq ≤ kj10) ∧ Aside0 (wc.heap[gb239]? = some (.cells #[.int .i64 a1_0, .int .i64 a1_1] 25 (0, 0))) ∧ Aside0 (wc.heap[gb240]? = some (.cells #[.int .i64 a2_0, .int .i64 a2_1] 25 (0, 0))) ∧ Aside0 (Below w.heap.size w wc))
         case first =>
          have H := HC30.out; clear HC30
          refine Or.elim (Classical.em (t244 ≥ 0)) (fun c31 => ?p9_) (fun c31 => ?n9_)
          case' p9_ =>
           rw [if_pos c31] at H
           have c31b0 : decide (0 ≤ t244) = true := decide_eq_true c31
           clear c31
           (first | rw [c31b0] | (simp only [i64_w, i32_w]; rw [c31b0]) | skip)
          case' n9_ =>
           rw [if_neg c31] at H
           have c31b0 : decide (0 ≤ t244) = false := decide_eq_false c31
           clear c31
           (first | rw [c31b0] | (simp only [i64_w, i32_w]; rw [c31b0]) | skip)
          all_goals
           have H' := Aside0.mk H
           clear H; go_wp2
           go_meet
           case rel => first | (exact ⟨_, (true), (by first | rfl | (simp; done) | (simp [*]; done)), H', ⟨by have := HJ10.out; first | omega | exact Nat.le_refl _⟩, ⟨by (with_reducible repeat (first | refine blk_drewN ?_ _ | refine blk_drew ?_ | refine blk_alloc ?_ _)); exact BK239.out⟩, ⟨by (with_reducible repeat (first | refine blk_drewN ?_ _ | refine blk_drew ?_ | refine blk_alloc ?_ _)); exact BK240.out⟩, ⟨by repeat (first | (with_reducible first | exact HB.out | apply below_alloc | apply pw_below_drewN | apply below_drew1 | refine below_set ?_ GE239.out | refine below_set ?_ GE240.out) | exact HB.out)⟩⟩) | (exact ⟨_, (decide (t246 ≥ 0)), (by first | rfl | (simp; done) | (simp [*]; done)), H', ⟨by have := HJ10.out; first | omega | exact Nat.le_refl _⟩, ⟨by (with_reducible repeat (first | refine blk_drewN ?_ _ | refine blk_drew ?_ | refine blk_alloc ?_ _)); exact BK239.out⟩, ⟨by (with_reducible repeat (first | refine blk_drewN ?_ _ | refine blk_drew ?_ | refine blk_alloc ?_ _)); exact BK240.out⟩, ⟨by repeat (first | (with_reducible first | exact HB.out | apply below_alloc | apply pw_below_drewN | apply below_drew1 | refine below_set ?_ GE239.out | refine below_set ?_ GE240.out) | exact HB.out)⟩⟩)
         case rest =>
          clear HC30
          (try clear c1); (try clear p1); (try clear c2); (try clear p2); (try clear c3); (try clear c5); (try clear c6); (try clear c7); (try clear c7b0); (try clear c7b1); (try clear c15); (try clear c17); (try clear c24); (try clear c26); (try clear c26b0); (try clear c26b1); (try clear c27); (try clear c27b0); (try clear c27b1); (try clear c28); (try clear c28b0); (try clear c28b1); (try clear c29); (try clear c31); (try clear c31b0); (try clear hczxcf2c1); (try clear hczxcf2c2); (try clear hczxcf2c3); (try clear hczxcf2c4); (try clear hczx43d91); (try clear hczx43d92); (try clear hczx8f5f1); (try clear hczx8f5f2); (try clear hczx960a1); (try clear hczx960a2); (try clear hczx960a3); (try clear hczx960a4); (try clear hfzxcf2c1); (try clear hfzxcf2c2); (try clear hfzxcf2c3)
          (try clear hfzxcf2c4); (try clear hfzx43d91); (try clear hfzx43d92); (try clear hfzx8f5f1); (try clear hfzx8f5f2); (try clear hfzx960a1); (try clear hfzx960a2); (try clear hfzx960a3); (try clear hfzx960a4); (try clear p1); (try clear p2)
          obtain ⟨kq, x71_29, rfl, HA, HJ29, BK239, BK240, HB⟩ := hcut
          cases kq with
          | zero => exact absurd HA.out (by simp [skywaykeep1_PolygonMeets.j1])
          | succ kj29 =>
           have H := HA.out; clear HA
           simp only [skywaykeep1_PolygonMeets.j1] at H
           by_cases c32 : x71_29 = true
           · subst c32
             have H1 : (some t242) = some r := by rw [if_pos rfl] at H; exact H
             clear H; have H := H1; clear H1; obtain rfl := Option.some.inj H; go_wp2; go_ret
             exact ⟨by first | rfl | (simp [errW_none, errW_some] <;> rfl) | (simp [*, errW_none, errW_some] <;> rfl), by repeat (first | (with_reducible first | exact HB.out | apply below_alloc | apply pw_below_drewN | apply below_drew1 | refine below_set ?_ GE239.out | refine below_set ?_ GE240.out) | exact HB.out)⟩
           · replace c32 := Bool.eq_false_iff.mpr c32
             subst c32
             have H1 : (skywaykeep1_PolygonMeets.l0 kj29 l0 t242 0 0 l0 (l0.length : Int) 0 a1_0 a1_1 a2_0 a2_1) = some r := by rw [if_neg (show ¬ (false = true) by decide)] at H; exact H
             clear H; have H := H1; clear H1
             have H' := Aside0.mk H
             clear H; go_wp2
             go_loopg [15, 16, 75] kj29 (fun kq v15 v16 v75 w' => ∃ (x15_3 : Int) (x16_3 : Int) (x75_3 : Int), v15 = .int .i64 x15_3 ∧ v16 = .int .i64 x16_3 ∧ v75 = .int .i64 x75_3 ∧ Aside0 (skywaykeep1_PolygonMeets.l0 kq l0 t242 x15_3 x16_3 l0 (l0.length : Int) x75_3 a1_0 a1_1 a2_0 a2_1 = some r) ∧ Aside0 (kq ≤ kj29) ∧ Aside0 (w'.heap[gb239]? = some (.cells #[.int .i64 a1_0, .int .i64 a1_1] 25 (0, 0))) ∧ Aside0 (w'.heap[gb240]? = some (.cells #[.int .i64 a2_0, .int .i64 a2_1] 25 (0, 0))) ∧ Aside0 (Below w.heap.size w w'))
             case atStart => exact ⟨(0), (0), (0), (by first | rfl | (simp; done) | (simp [*]; done)), (by first | rfl | (simp; done) | (simp [*]; done)), (by first | rfl | (simp; done) | (simp [*]; done)), H', ⟨Nat.le_refl _⟩, ⟨by (with_reducible repeat (first | refine blk_drewN ?_ _ | refine blk_drew ?_ | refine blk_alloc ?_ _)); exact BK239.out⟩, ⟨by (with_reducible repeat (first | refine blk_drewN ?_ _ | refine blk_drew ?_ | refine blk_alloc ?_ _)); exact BK240.out⟩, ⟨by repeat (first | (with_reducible first | exact HB.out | apply below_alloc | apply pw_below_drewN | apply below_drew1 | refine below_set ?_ GE239.out | refine below_set ?_ GE240.out) | exact HB.out)⟩⟩
             case round =>
              clear H'
              (try clear c1); (try clear p1); (try clear c2); (try clear p2); (try clear c3); (try clear c5); (try clear c6); (try clear c7); (try clear c7b0); (try clear c7b1); (try clear c15); (try clear c17); (try clear c24); (try clear c26); (try clear c26b0); (try clear c26b1); (try clear c27); (try clear c27b0); (try clear c27b1); (try clear c28); (try clear c28b0); (try clear c28b1); (try clear c29); (try clear c31); (try clear c31b0); (try clear c32); (try clear hczxcf2c1); (try clear hczxcf2c2); (try clear hczxcf2c3); (try clear hczxcf2c4); (try clear hczx43d91); (try clear hczx43d92); (try clear hczx8f5f1); (try clear hczx8f5f2); (try clear hczx960a1); (try clear hczx960a2); (try clear hczx960a3); (try clear hczx960a4); (try clear hfzxcf2c1); (try clear hfzxcf2c2)
              (try clear hfzxcf2c3); (try clear hfzxcf2c4); (try clear hfzx43d91); (try clear hfzx43d92); (try clear hfzx8f5f1); (try clear hfzx8f5f2); (try clear hfzx960a1); (try clear hfzx960a2); (try clear hfzx960a3); (try clear hfzx960a4); (try clear p1); (try clear p2)
              obtain ⟨x15_3, x16_3, x75_3, rfl, rfl, rfl, HA, HK3, BK239, BK240, HB⟩ := hrel
              cases gk with
              | zero => exact absurd HA.out (by simp [skywaykeep1_PolygonMeets.l0])
              | succ k3 =>
               have H := HA.out; clear HA
               simp only [skywaykeep1_PolygonMeets.l0] at H
               refine Or.elim (Classical.em (x75_3 < (l0.length : Int))) (fun c33 => ?p11_) (fun c33 => ?n11_)
               case' p11_ =>
                rw [if_pos c33] at H
                have c33b0 : decide (x75_3 < (l0.length : Int)) = true := decide_eq_true c33
                clear c33
                refine Or.elim (Classical.em (0 ≤ x75_3)) (fun c34 => ?p12_) (fun c34 => ?n12_)
                case' p12_ =>
                 rw [if_pos c34] at H
                 have c34b0 : decide (0 ≤ x75_3) = true := decide_eq_true c34
                 clear c34
                 refine Or.elim (Classical.em (x75_3 < (l0.length : Int))) (fun c35 => ?p13_) (fun c35 => ?n13_)
                 case' p13_ =>
                  rw [if_pos c35] at H
                  have c35b0 : decide (x75_3 < (l0.length : Int)) = true := decide_eq_true c35
                  clear c35
                  replace H := Option.bind_eq_some_iff.mp H
                  obtain ⟨t252, A360, H⟩ := H
                  replace H : (if t252 = 1 then (skywaykeep1_PolygonMeets.l0 k3 l0 t242 (wrap64 (x15_3 + 1)) x16_3 l0 (l0.length : Int) (wrap64 (x75_3 + 1)) a1_0 a1_1 a2_0 a2_1) else (if t252 = (-1) then (skywaykeep1_PolygonMeets.l0 k3 l0 t242 x15_3 (wrap64 (x16_3 + 1)) l0 (l0.length : Int) (wrap64 (x75_3 + 1)) a1_0 a1_1 a2_0 a2_1) else (skywaykeep1_PolygonMeets.l0 k3 l0 t242 x15_3 x16_3 l0 (l0.length : Int) (wrap64 (x75_3 + 1)) a1_0 a1_1 a2_0 a2_1))) = some r := H
                  have A36 := Aside0.mk A360; clear A360
                  refine Or.elim (Classical.em (t252 = 1)) (fun c37 => ?p14_) (fun c37 => ?n14_)
                  case' p14_ =>
                   rw [if_pos c37] at H
                   have c37b0 : (t252 == 1) = true := beq_iff_eq.mpr c37
                   have c37b1 : (t252 != 1) = false := bne_eq_false_iff_eq.mpr c37
                   clear c37; have hm10_0 := Aside0.mk trivial
                  case' n14_ =>
                   rw [if_neg c37] at H
                   have c37b0 : (t252 == 1) = false := beq_eq_false_iff_ne.mpr c37
                   have c37b1 : (t252 != 1) = true := bne_iff_ne.mpr c37
                   refine Or.elim (Classical.em (t252 = (-1))) (fun c46 => ?p15_) (fun c46 => ?n15_)
                   case' p15_ =>
                    rw [if_pos c46] at H
                    have c46b0 : (t252 == (-1)) = true := beq_iff_eq.mpr c46
                    have c46b1 : (t252 != (-1)) = false := bne_eq_false_iff_eq.mpr c46
                    clear c46; have hm10_0 := Aside0.mk trivial
                   case' n15_ =>
                    rw [if_neg c46] at H
                    have c46b0 : (t252 == (-1)) = false := beq_eq_false_iff_ne.mpr c46
                    have c46b1 : (t252 != (-1)) = true := bne_iff_ne.mpr c46
                    have hm10_0 := Aside0.mk trivial
                 case' n13_ =>
                  rw [if_neg c35] at H
                  exact absurd H (by simp)
                case' n12_ =>
                 rw [if_neg c34] at H
                 exact absurd H (by simp)
               case' n11_ =>
                rw [if_neg c33] at H
                have c33b0 : decide (x75_3 < (l0.length : Int)) = false := decide_eq_false c33
                clear c33
                refine Or.elim (Classical.em ((a1_0 == a2_0 && (a1_1 == a2_1)) = true)) (fun c63 => ?p16_) (fun c63 => ?n16_)
                case' p16_ =>
                 rw [if_pos c63] at H
                 have c63b0 : (a1_0 == a2_0 && (a1_1 == a2_1)) = true := c63
                 (try (have c63b1 : decide (a1_0 = a2_0 && (a1_1 == a2_1)) = true := by simpa using c63))
                 (try (have c63b2 : (a1_0 == a2_0 && (a1_1 == a2_1)) = true := by simpa using c63))
                 (try (have c63b3 : (!(a1_0 == a2_0) || (!(a1_1 == a2_1))) = false := by have h_ := c63; revert h_; cases (a1_0 == a2_0) <;> cases (a1_1 == a2_1) <;> decide))
                 clear c63
                 refine Or.elim (Classical.em (t242 = true)) (fun c64 => ?p17_) (fun c64 => ?n17_)
                 case' p17_ =>
                  subst c64
                  have H1 : (some false) = some r := by rw [if_pos rfl] at H; exact H
                  clear H; have H := H1; clear H1; have hm10_1 := Aside0.mk trivial
                 case' n17_ =>
                  replace c64 := Bool.eq_false_iff.mpr c64
                  subst c64
                  have H1 : (some true) = some r := by rw [if_neg (show ¬ (false = true) by decide)] at H; exact H
                  clear H; have H := H1; clear H1; have hm10_1 := Aside0.mk trivial
                case' n16_ =>
                 rw [if_neg c63] at H
                 have c63b0 : (a1_0 == a2_0 && (a1_1 == a2_1)) = false := by simpa using c63
                 (try (have c63b1 : decide (a1_0 = a2_0 && (a1_1 == a2_1)) = false := by simpa using c63))
                 (try (have c63b2 : (a1_0 == a2_0 && (a1_1 == a2_1)) = false := by simpa using c63))
                 (try (have c63b3 : ¬ (a1_0 = a2_0 && (a1_1 == a2_1)) := by simpa using c63))
                 (try (have c63b4 : (!(a1_0 == a2_0) || (!(a1_1 == a2_1))) = true := by have h_ := c63; revert h_; cases (a1_0 == a2_0) <;> cases (a1_1 == a2_1) <;> decide))
                 clear c63
                 refine Or.elim (Classical.em (t242 = true)) (fun c71 => ?p18_) (fun c71 => ?n18_)
                 case' p18_ =>
                  subst c71
                  have H1 : (if x15_3 < (l0.length : Int) then (some (decide (x16_3 < (l0.length : Int)))) else (some false)) = some r := by rw [if_pos rfl] at H; exact H
                  clear H; have H := H1; clear H1
                  refine Or.elim (Classical.em (x15_3 < (l0.length : Int))) (fun c72 => ?p19_) (fun c72 => ?n19_)
                  case' p19_ =>
                   rw [if_pos c72] at H
                   have c72b0 : decide (x15_3 < (l0.length : Int)) = true := decide_eq_true c72
                   clear c72; have hm10_1 := Aside0.mk trivial
                  case' n19_ =>
                   rw [if_neg c72] at H
                   have c72b0 : decide (x15_3 < (l0.length : Int)) = false := decide_eq_false c72
                   clear c72; have hm10_1 := Aside0.mk trivial
                 case' n18_ =>
                  replace c71 := Bool.eq_false_iff.mpr c71
                  subst c71
                  have H1 : (some true) = some r := by rw [if_neg (show ¬ (false = true) by decide)] at H; exact H
                  clear H; have H := H1; clear H1; have hm10_1 := Aside0.mk trivial
               all_goals
                first
                 | clear hm10_0
                   have H' := Aside0.mk H
                   clear H
                   have p250 : 0 ≤ (x75_3 : Int) := of_decide_eq_true (by first | (with_reducible assumption) | assumption)
                   have q250 : x75_3 < (l0.length : Int) := of_decide_eq_true (by first | (with_reducible assumption) | assumption)
                   obtain ⟨ad250, e250, hx250_0, hx250_1⟩ := at_T25 HR0.out x75_3 p250 q250
                   cases e250
                   replace hx250_0 := (HB.out.cell (World.block_lt_of_cell? w _ hx250_0)).trans hx250_0
                   replace hx250_1 := (HB.out.cell (World.block_lt_of_cell? w _ hx250_1)).trans hx250_1
                   replace p250 := eq_true p250; replace q250 := eq_true q250
                   go_wp2_with (first | ((with_reducible refine gate_dst (N := 18) rfl ?_); refine box_event ?hg (N := 18) ?hd (cs := #[.int .i64 0, .int .i64 0]) (t := 25) ?hr ?_; (case hd => rfl); (case hg => rfl); (case hr => first | (go_simp; done) | (go_simp; rfl)); intro gb251 hg wx6b571 hbox hb; have n0_ := Aside0.mk (blk_below (g := gb239) (o := .cells #[.int .i64 a1_0, .int .i64 a1_1] 25 (0, 0)) (by (with_reducible repeat (first | refine blk_drewN ?_ _ | refine blk_drew ?_ | refine blk_alloc ?_ _)); exact BK239.out) hb); have n1_ := Aside0.mk (blk_below (g := gb240) (o := .cells #[.int .i64 a2_0, .int .i64 a2_1] 25 (0, 0)) (by (with_reducible repeat (first | refine blk_drewN ?_ _ | refine blk_drew ?_ | refine blk_alloc ?_ _)); exact BK240.out) hb); have n2_ := Aside0.mk (below_step (by repeat (first | (with_reducible first | exact HB.out | apply below_alloc | apply pw_below_drewN | apply below_drew1 | refine below_set ?_ GE239.out | refine below_set ?_ GE240.out) | exact HB.out)) hb); have n3_ := Aside0.mk (hbox); have n4_ := Aside0.mk ((by rw [hg]; exact (below_size (by repeat (first | (with_reducible first | exact HB.out | apply below_alloc | apply pw_below_drewN | apply below_drew1 | refine below_set ?_ GE239.out | refine below_set ?_ GE240.out) | exact HB.out))) : w.heap.size ≤ gb251)); have n5_ := Aside0.mk ((by rw [hg]; exact (below_size (by repeat (first | (with_reducible first | exact HB.out | apply below_alloc | apply pw_below_drewN | apply below_drew1 | refine below_set ?_ GE239.out | refine below_set ?_ GE240.out) | exact HB.out))) : w.heap.size ≤ gb251)); have n6_ := Aside0.mk ((by rw [hg]; exact Nat.ne_of_lt (blk_lt (g := gb239) (o := .cells #[.int .i64 a1_0, .int .i64 a1_1] 25 (0, 0)) (by (with_reducible repeat (first | refine blk_drewN ?_ _ | refine blk_drew ?_ | refine blk_alloc ?_ _)); exact BK239.out)) : gb239 ≠ gb251)); have n7_ := Aside0.mk ((by rw [hg]; exact Nat.ne_of_gt (blk_lt (g := gb239) (o := .cells #[.int .i64 a1_0, .int .i64 a1_1] 25 (0, 0)) (by (with_reducible repeat (first | refine blk_drewN ?_ _ | refine blk_drew ?_ | refine blk_alloc ?_ _)); exact BK239.out)) : gb251 ≠ gb239)); have n8_ := Aside0.mk ((by rw [hg]; exact Nat.ne_of_lt (blk_lt (g := gb240) (o := .cells #[.int .i64 a2_0, .int .i64 a2_1] 25 (0, 0)) (by (with_reducible repeat (first | refine blk_drewN ?_ _ | refine blk_drew ?_ | refine blk_alloc ?_ _)); exact BK240.out)) : gb240 ≠ gb251)); have n9_ := Aside0.mk ((by rw [hg]; exact Nat.ne_of_gt (blk_lt (g := gb240) (o := .cells #[.int .i64 a2_0, .int .i64 a2_1] 25 (0, 0)) (by (with_reducible repeat (first | refine blk_drewN ?_ _ | refine blk_drew ?_ | refine blk_alloc ?_ _)); exact BK240.out)) : gb251 ≠ gb240)); clear BK239; clear BK240; clear HB; have BK239 := n0_; have BK240 := n1_; have HB := n2_; have BK251 := n3_; have GW251 := n4_; have GE251 := n5_; have NB239_251 := n6_; have NB251_239 := n7_; have NB240_251 := n8_; have NB251_240 := n9_; clear n0_ n1_ n2_ n3_ n4_ n5_ n6_ n7_ n8_ n9_; clear hb hbox hg; have hnbx6b571 := NB251_239.out; have hncx6b571 := NB239_251.out; have hnbx6b572 := NB251_240.out; have hncx6b572 := NB240_251.out; have hczx6b571 : wx6b571.cell? ⟨gb251, 0, none⟩ = some (.int .i64 0) := (blk_cell BK251.out 0).trans rfl; have hczx6b572 : wx6b571.cell? ⟨gb251, 1, none⟩ = some (.int .i64 0) := (blk_cell BK251.out 1).trans rfl; have hfzx6b571 := blk_frozen BK251.out 0; have hfzx6b572 := blk_frozen BK251.out 1; have hnbx6b573 := NB239_240.out; have hncx6b573 := NB240_239.out; have hczx6b573 : wx6b571.cell? ⟨gb239, 0, none⟩ = some (.int .i64 a1_0) := (blk_cell BK239.out 0).trans rfl; have hczx6b574 : wx6b571.cell? ⟨gb239, 1, none⟩ = some (.int .i64 a1_1) := (blk_cell BK239.out 1).trans rfl; have hfzx6b573 := blk_frozen BK239.out 0; have hfzx6b574 := blk_frozen BK239.out 1; have hczx6b575 : wx6b571.cell? ⟨gb240, 0, none⟩ = some (.int .i64 a2_0) := (blk_cell BK240.out 0).trans rfl; have hczx6b576 : wx6b571.cell? ⟨gb240, 1, none⟩ = some (.int .i64 a2_1) := (blk_cell BK240.out 1).trans rfl; have hfzx6b575 := blk_frozen BK240.out 0; have hfzx6b576 := blk_frozen BK240.out 1) | ((with_reducible refine gate_callee (f := 25) rfl ?_); refine goesL_ (some 82) rfl rfl Try.func25 (by kernel_rfl) rfl #[.agg #[.int .i64 a1_0, .int .i64 a1_1], .agg #[.int .i64 a2_0, .int .i64 a2_1], .agg #[.int .i64 ((rd_T25 l0 x75_3).f0), .int .i64 ((rd_T25 l0 x75_3).f1)]] rfl (by (try simp only [List.map_toArray, List.map_cons, List.map_nil]); first | done | rfl | (simp only [List.length_drop, List.length_take]; rfl)) ?_; (with_reducible refine (plane_Turn.calls a1_0 a1_1 a2_0 a2_1 ((rd_T25 l0 x75_3).f0) ((rd_T25 l0 x75_3).f1) t252 _ A36.out).mono ?_); rintro e wx81a81 ⟨rfl, hb⟩; refine ⟨_, rfl, ?_⟩; have n0_ := Aside0.mk (blk_below (g := gb239) (o := .cells #[.int .i64 a1_0, .int .i64 a1_1] 25 (0, 0)) (by (with_reducible repeat (first | refine blk_drewN ?_ _ | refine blk_drew ?_ | refine blk_alloc ?_ _)); refine blk_far ?_ NB239_251.out _; (with_reducible repeat (first | refine blk_drewN ?_ _ | refine blk_drew ?_ | refine blk_alloc ?_ _)); refine blk_far ?_ NB239_251.out _; (with_reducible repeat (first | refine blk_drewN ?_ _ | refine blk_drew ?_ | refine blk_alloc ?_ _)); exact BK239.out) hb); have n1_ := Aside0.mk (blk_below (g := gb240) (o := .cells #[.int .i64 a2_0, .int .i64 a2_1] 25 (0, 0)) (by (with_reducible repeat (first | refine blk_drewN ?_ _ | refine blk_drew ?_ | refine blk_alloc ?_ _)); refine blk_far ?_ NB240_251.out _; (with_reducible repeat (first | refine blk_drewN ?_ _ | refine blk_drew ?_ | refine blk_alloc ?_ _)); refine blk_far ?_ NB240_251.out _; (with_reducible repeat (first | refine blk_drewN ?_ _ | refine blk_drew ?_ | refine blk_alloc ?_ _)); exact BK240.out) hb); have n2_ := Aside0.mk (blk_below (g := gb251) (o := .cells #[.int .i64 ((rd_T25 l0 x75_3).f0), .int .i64 ((rd_T25 l0 x75_3).f1)] 25 (0, 0)) (by (with_reducible repeat (first | refine blk_drewN ?_ _ | refine blk_drew ?_ | refine blk_alloc ?_ _)); refine blk_put (cs := #[.int .i64 ((rd_T25 l0 x75_3).f0), .int .i64 0]) ?_ 1 _ rfl; (with_reducible repeat (first | refine blk_drewN ?_ _ | refine blk_drew ?_ | refine blk_alloc ?_ _)); refine blk_put (cs := #[.int .i64 0, .int .i64 0]) ?_ 0 _ rfl; (with_reducible repeat (first | refine blk_drewN ?_ _ | refine blk_drew ?_ | refine blk_alloc ?_ _)); exact BK251.out) hb); have n3_ := Aside0.mk (below_step (by repeat (first | (with_reducible first | exact HB.out | apply below_alloc | apply pw_below_drewN | apply below_drew1 | refine below_set ?_ GE239.out | refine below_set ?_ GE240.out | refine below_set ?_ GE251.out) | exact HB.out)) hb); clear BK239; clear BK240; clear BK251; clear HB; have BK239 := n0_; have BK240 := n1_; have BK251 := n2_; have HB := n3_; clear n0_ n1_ n2_ n3_; (try clear hb); (try clear hb2); (try clear hk); (try clear hi)))
                   go_roundg k3
                   case measure => have := HJ10.out; have := HJ29.out; have := HK3.out; omega
                   case rel => first | (exact ⟨(wrap64 (x15_3 + 1)), (x16_3), (wrap64 (x75_3 + 1)), (by first | rfl | (simp; done) | (simp [*]; done)), (by first | rfl | (simp; done) | (simp [*]; done)), (by first | rfl | (simp; done) | (simp [*]; done)), H', ⟨by have := HJ10.out; have := HJ29.out; have := HK3.out; omega⟩, ⟨by (with_reducible repeat (first | refine blk_drewN ?_ _ | refine blk_drew ?_ | refine blk_alloc ?_ _)); exact BK239.out⟩, ⟨by (with_reducible repeat (first | refine blk_drewN ?_ _ | refine blk_drew ?_ | refine blk_alloc ?_ _)); exact BK240.out⟩, ⟨by repeat (first | (with_reducible first | exact HB.out | apply below_alloc | apply pw_below_drewN | apply below_drew1 | refine below_set ?_ GE239.out | refine below_set ?_ GE240.out | refine below_set ?_ GE251.out) | exact HB.out)⟩⟩) | (exact ⟨(x15_3), (wrap64 (x16_3 + 1)), (wrap64 (x75_3 + 1)), (by first | rfl | (simp; done) | (simp [*]; done)), (by first | rfl | (simp; done) | (simp [*]; done)), (by first | rfl | (simp; done) | (simp [*]; done)), H', ⟨by have := HJ10.out; have := HJ29.out; have := HK3.out; omega⟩, ⟨by (with_reducible repeat (first | refine blk_drewN ?_ _ | refine blk_drew ?_ | refine blk_alloc ?_ _)); exact BK239.out⟩, ⟨by (with_reducible repeat (first | refine blk_drewN ?_ _ | refine blk_drew ?_ | refine blk_alloc ?_ _)); exact BK240.out⟩, ⟨by repeat (first | (with_reducible first | exact HB.out | apply below_alloc | apply pw_below_drewN | apply below_drew1 | refine below_set ?_ GE239.out | refine below_set ?_ GE240.out | refine below_set ?_ GE251.out) | exact HB.out)⟩⟩) | (exact ⟨(x15_3), (x16_3), (wrap64 (x75_3 + 1)), (by first | rfl | (simp; done) | (simp [*]; done)), (by first | rfl | (simp; done) | (simp [*]; done)), (by first | rfl | (simp; done) | (simp [*]; done)), H', ⟨by have := HJ10.out; have := HJ29.out; have := HK3.out; omega⟩, ⟨by (with_reducible repeat (first | refine blk_drewN ?_ _ | refine blk_drew ?_ | refine blk_alloc ?_ _)); exact BK239.out⟩, ⟨by (with_reducible repeat (first | refine blk_drewN ?_ _ | refine blk_drew ?_ | refine blk_alloc ?_ _)); exact BK240.out⟩, ⟨by repeat (first | (with_reducible first | exact HB.out | apply below_alloc | apply pw_below_drewN | apply below_drew1 | refine below_set ?_ GE239.out | refine below_set ?_ GE240.out | refine below_set ?_ GE251.out) | exact HB.out)⟩⟩)
                 | clear hm10_1; obtain rfl := Option.some.inj H; have hnbzg1 := NB239_240.out; have hnczg1 := NB240_239.out
                   have hczzg1 : wr.cell? ⟨gb239, 0, none⟩ = some (.int .i64 a1_0) := (blk_cell BK239.out 0).trans rfl
                   have hczzg2 : wr.cell? ⟨gb239, 1, none⟩ = some (.int .i64 a1_1) := (blk_cell BK239.out 1).trans rfl
                   have hfzzg1 := blk_frozen BK239.out 0; have hfzzg2 := blk_frozen BK239.out 1
                   have hczzg3 : wr.cell? ⟨gb240, 0, none⟩ = some (.int .i64 a2_0) := (blk_cell BK240.out 0).trans rfl
                   have hczzg4 : wr.cell? ⟨gb240, 1, none⟩ = some (.int .i64 a2_1) := (blk_cell BK240.out 1).trans rfl
                   have hfzzg3 := blk_frozen BK240.out 0; have hfzzg4 := blk_frozen BK240.out 1; go_wp2; go_ret
                   exact ⟨by first | rfl | (simp [errW_none, errW_some] <;> rfl) | (simp [*, errW_none, errW_some] <;> rfl), by repeat (first | (with_reducible first | exact HB.out | apply below_alloc | apply pw_below_drewN | apply below_drew1 | refine below_set ?_ GE239.out | refine below_set ?_ GE240.out) | exact HB.out)⟩
   | clear hm1_1; obtain rfl := Option.some.inj H
     go_enter Try.func6, Try.ntmps6
     go_wp2_with (first | ((with_reducible refine gate_dst (N := 4) rfl ?_); refine box_event ?hg (N := 4) ?hd (cs := #[.int .i64 a1_0, .int .i64 a1_1]) (t := 25) ?hr ?_; (case hd => rfl); (case hg => rfl); (case hr => first | (go_simp; done) | (go_simp; rfl)); intro gb239 hg wx8bb71 hbox hb; have n0_ := Aside0.mk (below_step (by repeat (first | (with_reducible first | exact HB.out | apply below_alloc | apply pw_below_drewN | apply below_drew1) | exact HB.out)) hb); have n1_ := Aside0.mk (hbox); have n2_ := Aside0.mk ((by rw [hg]; exact (below_size (by repeat (first | (with_reducible first | exact HB.out | apply below_alloc | apply pw_below_drewN | apply below_drew1) | exact HB.out))) : w.heap.size ≤ gb239)); have n3_ := Aside0.mk ((by rw [hg]; exact (below_size (by repeat (first | (with_reducible first | exact HB.out | apply below_alloc | apply pw_below_drewN | apply below_drew1) | exact HB.out))) : w.heap.size ≤ gb239)); clear HB; have HB := n0_; have BK239 := n1_; have GW239 := n2_; have GE239 := n3_; clear n0_ n1_ n2_ n3_; clear hb hbox hg) | ((with_reducible refine gate_dst (N := 5) rfl ?_); refine box_event ?hg (N := 5) ?hd (cs := #[.int .i64 a2_0, .int .i64 a2_1]) (t := 25) ?hr ?_; (case hd => rfl); (case hg => rfl); (case hr => first | (go_simp; done) | (go_simp; rfl)); intro gb240 hg wx738c1 hbox hb; have n0_ := Aside0.mk (blk_below (g := gb239) (o := .cells #[.int .i64 a1_0, .int .i64 a1_1] 25 (0, 0)) (by (with_reducible repeat (first | refine blk_drewN ?_ _ | refine blk_drew ?_ | refine blk_alloc ?_ _)); exact BK239.out) hb); have n1_ := Aside0.mk (below_step (by repeat (first | (with_reducible first | exact HB.out | apply below_alloc | apply pw_below_drewN | apply below_drew1 | refine below_set ?_ GE239.out) | exact HB.out)) hb); have n2_ := Aside0.mk (hbox); have n3_ := Aside0.mk ((by rw [hg]; exact (below_size (by repeat (first | (with_reducible first | exact HB.out | apply below_alloc | apply pw_below_drewN | apply below_drew1 | refine below_set ?_ GE239.out) | exact HB.out))) : w.heap.size ≤ gb240)); have n4_ := Aside0.mk ((by rw [hg]; exact (below_size (by repeat (first | (with_reducible first | exact HB.out | apply below_alloc | apply pw_below_drewN | apply below_drew1 | refine below_set ?_ GE239.out) | exact HB.out))) : w.heap.size ≤ gb240)); have n5_ := Aside0.mk ((by rw [hg]; exact Nat.ne_of_lt (blk_lt (g := gb239) (o := .cells #[.int .i64 a1_0, .int .i64 a1_1] 25 (0, 0)) (by (with_reducible repeat (first | refine blk_drewN ?_ _ | refine blk_drew ?_ | refine blk_alloc ?_ _)); exact BK239.out)) : gb239 ≠ gb240)); have n6_ := Aside0.mk ((by rw [hg]; exact Nat.ne_of_gt (blk_lt (g := gb239) (o := .cells #[.int .i64 a1_0, .int .i64 a1_1] 25 (0, 0)) (by (with_reducible repeat (first | refine blk_drewN ?_ _ | refine blk_drew ?_ | refine blk_alloc ?_ _)); exact BK239.out)) : gb240 ≠ gb239)); clear BK239; clear HB; have BK239 := n0_; have HB := n1_; have BK240 := n2_; have GW240 := n3_; have GE240 := n4_; have NB239_240 := n5_; have NB240_239 := n6_; clear n0_ n1_ n2_ n3_ n4_ n5_ n6_; clear hb hbox hg) | ((with_reducible refine gate_callee (f := 15) rfl ?_); refine goesL_ (some 19) rfl rfl Try.func15 (by kernel_rfl) rfl #[] rfl (by (try simp only [List.map_toArray, List.map_cons, List.map_nil]); first | done | rfl | (simp only [List.length_drop, List.length_take]; rfl)) ?_; (with_reducible refine (skywaykeep1_polygonWorks.calls k  true _ A4.out).mono ?_); rintro e wxcf2c1 ⟨rfl, hb⟩; refine ⟨_, rfl, ?_⟩; have n0_ := Aside0.mk (blk_below (g := gb239) (o := .cells #[.int .i64 a1_0, .int .i64 a1_1] 25 (0, 0)) (by (with_reducible repeat (first | refine blk_drewN ?_ _ | refine blk_drew ?_ | refine blk_alloc ?_ _)); exact BK239.out) hb); have n1_ := Aside0.mk (blk_below (g := gb240) (o := .cells #[.int .i64 a2_0, .int .i64 a2_1] 25 (0, 0)) (by (with_reducible repeat (first | refine blk_drewN ?_ _ | refine blk_drew ?_ | refine blk_alloc ?_ _)); exact BK240.out) hb); have n2_ := Aside0.mk (below_step (by repeat (first | (with_reducible first | exact HB.out | apply below_alloc | apply pw_below_drewN | apply below_drew1 | refine below_set ?_ GE239.out | refine below_set ?_ GE240.out) | exact HB.out)) hb); clear BK239; clear BK240; clear HB; have BK239 := n0_; have BK240 := n1_; have HB := n2_; clear n0_ n1_ n2_; (try clear hb); (try clear hb2); (try clear hk); (try clear hi); have hnbxcf2c1 := NB239_240.out; have hncxcf2c1 := NB240_239.out; have hczxcf2c1 : wxcf2c1.cell? ⟨gb239, 0, none⟩ = some (.int .i64 a1_0) := (blk_cell BK239.out 0).trans rfl; have hczxcf2c2 : wxcf2c1.cell? ⟨gb239, 1, none⟩ = some (.int .i64 a1_1) := (blk_cell BK239.out 1).trans rfl; have hfzxcf2c1 := blk_frozen BK239.out 0; have hfzxcf2c2 := blk_frozen BK239.out 1; have hczxcf2c3 : wxcf2c1.cell? ⟨gb240, 0, none⟩ = some (.int .i64 a2_0) := (blk_cell BK240.out 0).trans rfl; have hczxcf2c4 : wxcf2c1.cell? ⟨gb240, 1, none⟩ = some (.int .i64 a2_1) := (blk_cell BK240.out 1).trans rfl; have hfzxcf2c3 := blk_frozen BK240.out 0; have hfzxcf2c4 := blk_frozen BK240.out 1) | ((with_reducible refine gate_callee (f := 15) rfl ?_); refine goesL_ (some 19) rfl rfl Try.func15 (by kernel_rfl) rfl #[] rfl (by (try simp only [List.map_toArray, List.map_cons, List.map_nil]); first | done | rfl | (simp only [List.length_drop, List.length_take]; rfl)) ?_; (with_reducible refine (skywaykeep1_polygonWorks.calls k  false _ A4.out).mono ?_); rintro e wx8a261 ⟨rfl, hb⟩; refine ⟨_, rfl, ?_⟩; have n0_ := Aside0.mk (blk_below (g := gb239) (o := .cells #[.int .i64 a1_0, .int .i64 a1_1] 25 (0, 0)) (by (with_reducible repeat (first | refine blk_drewN ?_ _ | refine blk_drew ?_ | refine blk_alloc ?_ _)); exact BK239.out) hb); have n1_ := Aside0.mk (blk_below (g := gb240) (o := .cells #[.int .i64 a2_0, .int .i64 a2_1] 25 (0, 0)) (by (with_reducible repeat (first | refine blk_drewN ?_ _ | refine blk_drew ?_ | refine blk_alloc ?_ _)); exact BK240.out) hb); have n2_ := Aside0.mk (below_step (by repeat (first | (with_reducible first | exact HB.out | apply below_alloc | apply pw_below_drewN | apply below_drew1 | refine below_set ?_ GE239.out | refine below_set ?_ GE240.out) | exact HB.out)) hb); clear BK239; clear BK240; clear HB; have BK239 := n0_; have BK240 := n1_; have HB := n2_; clear n0_ n1_ n2_; (try clear hb); (try clear hb2); (try clear hk); (try clear hi)) | ((with_reducible refine gate_callee (f := 24) rfl ?_); refine goesL_ (some 25) rfl rfl Try.func24 (by kernel_rfl) rfl #[.slice A0 l0.length c0, .agg #[.int .i64 a1_0, .int .i64 a1_1], .agg #[.int .i64 a2_0, .int .i64 a2_1]] rfl (by (try simp only [List.map_toArray, List.map_cons, List.map_nil]); first | done | rfl | (simp only [List.length_drop, List.length_take]; rfl)) ?_; (with_reducible refine (polygon_Meets.calls k _ _ l0 a1_0 a1_1 a2_0 a2_1 t242 t243 _ ?side1 ?side2 A6.out).mono ?_); (case side1 => repeat (first | exact (Kd.C_below HR0.out HB.out) | (with_reducible refine Kd.C_alloc ?_ _) | (with_reducible refine Kd.C_drewN ?_ _) | (with_reducible refine Kd.C_drew ?_))); (case side2 => exact HC0.out); rintro e wx97491 ⟨rfl, hb⟩; refine ⟨_, rfl, ?_⟩; have n0_ := Aside0.mk (blk_below (g := gb239) (o := .cells #[.int .i64 a1_0, .int .i64 a1_1] 25 (0, 0)) (by (with_reducible repeat (first | refine blk_drewN ?_ _ | refine blk_drew ?_ | refine blk_alloc ?_ _)); exact BK239.out) hb); have n1_ := Aside0.mk (blk_below (g := gb240) (o := .cells #[.int .i64 a2_0, .int .i64 a2_1] 25 (0, 0)) (by (with_reducible repeat (first | refine blk_drewN ?_ _ | refine blk_drew ?_ | refine blk_alloc ?_ _)); exact BK240.out) hb); have n2_ := Aside0.mk (below_step (by repeat (first | (with_reducible first | exact HB.out | apply below_alloc | apply pw_below_drewN | apply below_drew1 | refine below_set ?_ GE239.out | refine below_set ?_ GE240.out) | exact HB.out)) hb); clear BK239; clear BK240; clear HB; have BK239 := n0_; have BK240 := n1_; have HB := n2_; clear n0_ n1_ n2_; (try clear hb); (try clear hb2); (try clear hk); (try clear hi)))
     go_ret
     exact ⟨by first | rfl | (simp [errW_none, errW_some] <;> rfl) | (simp [*, errW_none, errW_some] <;> rfl), by repeat (first | (with_reducible first | exact HB.out | apply below_alloc | apply pw_below_drewN | apply below_drew1 | refine below_set ?_ GE239.out | refine below_set ?_ GE240.out) | exact HB.out)⟩

/-- What is told of a value of struct type 25 that came in. -/
def good25 (x : S25) : Prop := ((Lit.int .i64 x.f0).wf = true) ∧ (Lit.int .i64 x.f1).wf = true
/-- THE ONE PURE STATEMENT of skywaykeep1_PolygonMeets. -/
def skywaykeep1_PolygonMeets.Pure : Prop := ∀ (l0 : List (S25)) (a1_0 : Int) (a1_1 : Int) (a2_0 : Int) (a2_1 : Int), (l0.length * 16 ≤ 140737488351232 ∧ ∀ y0 ∈ l0, good25 y0) → ((Lit.int .i64 a1_0).wf = true) → ((Lit.int .i64 a1_1).wf = true) → ((Lit.int .i64 a2_0).wf = true) → ((Lit.int .i64 a2_1).wf = true) → ∃ k, skywaykeep1_PolygonMeets.f k l0 a1_0 a1_1 a2_0 a2_1 = some true

end Go.Proofs.Yteaddpieonkboaa.PPolygonMeets
