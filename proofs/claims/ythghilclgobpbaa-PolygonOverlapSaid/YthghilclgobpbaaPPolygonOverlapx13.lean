/- Made by a program of this session (wip/tools/myprint.py, over the kit's printer): that the Go functions answer as the Lean functions printed beside them. -/
import Derived.Test.YthghilclgobpbaaTSq2
import Derived.Test.YthghilclgobpbaaPPolygonOverlapx0
import Derived.Test.YthghilclgobpbaaPPolygonOverlapx2
import Derived.Test.YthghilclgobpbaaPPolygonOverlapx5
import Derived.Test.YthghilclgobpbaaPPolygonOverlapx6
import Derived.Test.YthghilclgobpbaaPPolygonOverlapx8
import Derived.Test.YthghilclgobpbaaPPolygonOverlapx12
namespace Go.Proofs.Ythghilclgobpbaa.PPolygonOverlap
open Go.RowKit Go.Proofs.YthghilclgobpbaaW.PrintWords Go.Proofs.YthghilclgobpbaaW.PrintLast Go.Proofs.YthghilclgobpbaaW.PrintMore
attribute [local go_sem] max2_int min2_int max_two min_two max_three min_three max_four min_four   -- for this text's walks alone
set_option linter.unusedVariables false
set_option linter.unusedSimpArgs false

/-! ### polygon_Locate: function 17 -/
def polygon_Locate.f (k : Nat) (l0 : List (S41)) (a1_0 : Int) (a1_1 : Int) : Option (Int × Int) := (polygon_Check.f k l0).bind fun t243 => (if t243 = 0 then ((plane_Check.f a1_0 a1_1).bind fun t244 => (if t244 = 0 then ((polygon_locate.f k l0 a1_0 a1_1).bind fun t245 => (some (t245, 0))) else (some (0, t244)))) else (some (0, t243)))
theorem polygon_Locate.mono : ∀ a0 a1 a2 k, LeO (polygon_Locate.f k a0 a1 a2) (polygon_Locate.f (k + 1) a0 a1 a2) := by
  intro a0 a1 a2 k; unfold polygon_Locate.f
  repeat' first
      | (with_reducible exact polygon_Check.mono _ _)
      | (with_reducible exact polygon_locate.mono _ _ _ _)
      | (with_reducible exact LeO.refl _)
      | (with_reducible exact LeO.none _)
      | (with_reducible refine LeO.ite ?_ ?_)
      | (with_reducible refine LeO.bind ?_ (fun _ => ?_))
      | exact polygon_Check.mono _ _
      | exact polygon_locate.mono _ _ _ _
      | exact LeO.none _
      | refine LeO.ite ?_ ?_
      | refine LeO.bind ?_ (fun _ => ?_)
set_option maxHeartbeats 8000000 in
set_option maxRecDepth 100000 in
theorem polygon_Locate.calls (k : Nat) (A0 : Option Addr) (c0 : Nat) (l0 : List (S41)) (a1_0 : Int) (a1_1 : Int) (r1 : Int) (r2 : Int) (w : World) (hr0 : Kd.C k41 w A0 l0.length l0) (hc0 : l0.length ≤ c0) (h : polygon_Locate.f k l0 a1_0 a1_1 = some (r1, r2)) :
    Calls Try.prog 17 #[.slice A0 l0.length c0, .agg #[.int .i64 a1_0, .int .i64 a1_1]] w fun e w' => e = .returned (.tuple #[.int .i64 r1, .int .i64 r2]) ∧ Below w.heap.size w w' := by
 have hu41 := Try.underlying41; have HR0 := Aside0.mk hr0; have HC0 := Aside0.mk hc0; clear hr0 hc0; have HB := Aside0.mk (Below.refl w.heap.size w); have H : ((polygon_Check.f k l0).bind fun t243 => (if t243 = 0 then ((plane_Check.f a1_0 a1_1).bind fun t244 => (if t244 = 0 then ((polygon_locate.f k l0 a1_0 a1_1).bind fun t245 => (some (t245, 0))) else (some (0, t244)))) else (some (0, t243)))) = some (r1, r2) := h; clear h; replace H := Option.bind_eq_some_iff.mp H; obtain ⟨t243, A30, H⟩ := H; replace H : (if t243 = 0 then ((plane_Check.f a1_0 a1_1).bind fun t244 => (if t244 = 0 then ((polygon_locate.f k l0 a1_0 a1_1).bind fun t245 => (some (t245, 0))) else (some (0, t244)))) else (some (0, t243))) = some (r1, r2) := H; have A3 := Aside0.mk A30; clear A30; refine Or.elim (Classical.em (t243 = 0)) (fun c4 => ?p2_) (fun c4 => ?n2_)
 case' p2_ =>
  rw [if_pos c4] at H; have c4b0 : (t243 == 0) = true := beq_iff_eq.mpr c4; have c4b1 : (t243 != 0) = false := bne_eq_false_iff_eq.mpr c4; clear c4; replace H := Option.bind_eq_some_iff.mp H; obtain ⟨t244, A50, H⟩ := H; replace H : (if t244 = 0 then ((polygon_locate.f k l0 a1_0 a1_1).bind fun t245 => (some (t245, 0))) else (some (0, t244))) = some (r1, r2) := H; have A5 := Aside0.mk A50; clear A50; refine Or.elim (Classical.em (t244 = 0)) (fun c6 => ?p3_) (fun c6 => ?n3_)
  case' p3_ =>
   rw [if_pos c6] at H; have c6b0 : (t244 == 0) = true := beq_iff_eq.mpr c6; have c6b1 : (t244 != 0) = false := bne_eq_false_iff_eq.mpr c6; clear c6; replace H := Option.bind_eq_some_iff.mp H; obtain ⟨t245, A70, H⟩ := H; replace H : (some (t245, 0)) = some (r1, r2) := H; have A7 := Aside0.mk A70; clear A70; simp only [Option.some.injEq, Prod.mk.injEq] at H; obtain ⟨rfl, rfl⟩ := H
  case' n3_ =>
   rw [if_neg c6] at H; have c6b0 : (t244 == 0) = false := beq_eq_false_iff_ne.mpr c6; have c6b1 : (t244 != 0) = true := bne_iff_ne.mpr c6; simp only [Option.some.injEq, Prod.mk.injEq] at H; obtain ⟨rfl, rfl⟩ := H
 case' n2_ =>
  rw [if_neg c4] at H; have c4b0 : (t243 == 0) = false := beq_eq_false_iff_ne.mpr c4; have c4b1 : (t243 != 0) = true := bne_iff_ne.mpr c4; simp only [Option.some.injEq, Prod.mk.injEq] at H; obtain ⟨rfl, rfl⟩ := H
 all_goals
  go_enter Try.func17, Try.ntmps17
  go_wp2_with (first | ((with_reducible refine gate_dst (N := 3) rfl ?_); refine box_s #[.int .i64 a1_0, .int .i64 a1_1] 41 ?_; intro gb242 hg wxbe511 hbox hb; have n0_ := st HB hb; have n1_ := Aside0.mk (hbox); have n2_ := ge HB hg; have n3_ := ge HB hg; clear HB; have HB := n0_; have BK242 := n1_; have GW242 := n2_; have GE242 := n3_; clear n0_ n1_ n2_ n3_; clear hb hbox hg) | ((with_reducible refine gate_callee (f := 33) rfl ?_); refine goesL_ (some 9) rfl rfl Try.func33 (by kernel_rfl) rfl #[.slice A0 l0.length c0] rfl any_s ?_; (with_reducible refine (polygon_Check.calls k _ _ l0 t243 _ ?side1 ?side2 A3.out).mono ?_); (case side1 => exact cb_s (Kd.C_below HR0.out HB.out)); (case side2 => exact HC0.out); rintro e wx7bfb1 ⟨rfl, hb⟩; refine ⟨_, rfl, ?_⟩; have n0_ := kp BK242 hb; have n1_ := st HB hb; clear BK242; clear HB; have BK242 := n0_; have HB := n1_; clear n0_ n1_; (try clear hb); (try clear hb2); (try clear hk); (try clear hi); have hczx7bfb1 : wx7bfb1.cell? ⟨gb242, 0, none⟩ = some (.int .i64 a1_0) := bc BK242 0; have hczx7bfb2 : wx7bfb1.cell? ⟨gb242, 1, none⟩ = some (.int .i64 a1_1) := bc BK242 1; have hfzx7bfb1 := blk_frozen BK242.out 0; have hfzx7bfb2 := blk_frozen BK242.out 1) | ((with_reducible refine gate_callee (f := 33) rfl ?_); refine goesL_ (some 9) rfl rfl Try.func33 (by kernel_rfl) rfl #[.slice A0 l0.length c0] rfl any_s ?_; (with_reducible refine (polygon_Check.calls k _ _ l0 t243 _ ?side1 ?side2 A3.out).mono ?_); (case side1 => exact cb_s (Kd.C_below HR0.out HB.out)); (case side2 => exact HC0.out); rintro e wx456d1 ⟨rfl, hb⟩; refine ⟨_, rfl, ?_⟩; have n0_ := kp BK242 hb; have n1_ := st HB hb; clear BK242; clear HB; have BK242 := n0_; have HB := n1_; clear n0_ n1_; (try clear hb); (try clear hb2); (try clear hk); (try clear hi)) | ((with_reducible refine gate_callee (f := 37) rfl ?_); refine goesL_ (some 14) rfl rfl Try.func37 (by kernel_rfl) rfl #[.agg #[.int .i64 a1_0, .int .i64 a1_1]] rfl any_s ?_; (with_reducible refine (plane_Check.calls a1_0 a1_1 t244 _ A5.out).mono ?_); rintro e wxcac71 ⟨rfl, hb⟩; refine ⟨_, rfl, ?_⟩; have n0_ := kp BK242 hb; have n1_ := st HB hb; clear BK242; clear HB; have BK242 := n0_; have HB := n1_; clear n0_ n1_; (try clear hb); (try clear hb2); (try clear hk); (try clear hi); have hczxcac71 : wxcac71.cell? ⟨gb242, 0, none⟩ = some (.int .i64 a1_0) := bc BK242 0; have hczxcac72 : wxcac71.cell? ⟨gb242, 1, none⟩ = some (.int .i64 a1_1) := bc BK242 1; have hfzxcac71 := blk_frozen BK242.out 0; have hfzxcac72 := blk_frozen BK242.out 1) | ((with_reducible refine gate_callee (f := 37) rfl ?_); refine goesL_ (some 14) rfl rfl Try.func37 (by kernel_rfl) rfl #[.agg #[.int .i64 a1_0, .int .i64 a1_1]] rfl any_s ?_; (with_reducible refine (plane_Check.calls a1_0 a1_1 t244 _ A5.out).mono ?_); rintro e wx86811 ⟨rfl, hb⟩; refine ⟨_, rfl, ?_⟩; have n0_ := kp BK242 hb; have n1_ := st HB hb; clear BK242; clear HB; have BK242 := n0_; have HB := n1_; clear n0_ n1_; (try clear hb); (try clear hb2); (try clear hk); (try clear hi)) | ((with_reducible refine gate_callee (f := 38) rfl ?_); refine goesL_ (some 20) rfl rfl Try.func38 (by kernel_rfl) rfl #[.slice A0 l0.length c0, .agg #[.int .i64 a1_0, .int .i64 a1_1]] rfl any_s ?_; (with_reducible refine (polygon_locate.calls k _ _ l0 a1_0 a1_1 t245 _ ?side1 ?side2 A7.out).mono ?_); (case side1 => exact cb_s (Kd.C_below HR0.out HB.out)); (case side2 => exact HC0.out); rintro e wxde8c1 ⟨rfl, hb⟩; refine ⟨_, rfl, ?_⟩; have n0_ := kp BK242 hb; have n1_ := st HB hb; clear BK242; clear HB; have BK242 := n0_; have HB := n1_; clear n0_ n1_; (try clear hb); (try clear hb2); (try clear hk); (try clear hi)))
  go_ret2
  exact ⟨by first | rfl | (simp [errW_none, errW_some] <;> rfl) | (simp [*, errW_none, errW_some] <;> rfl), by repeat (first | (with_reducible first | exact HB.out | apply below_alloc | apply pw_below_drewN | apply below_drew1 | refine below_set ?_ GE242.out) | exact HB.out)⟩

/-! ### skywaykeep1_PolygonOverlap: function 5 -/
mutual
def skywaykeep1_PolygonOverlap.j0 : Nat → List (S41) → List (S41) → Bool → Bool → Option (Bool)
  | 0, _, _, _, _ => none
  | k + 1, x0, x1, x5, x40 => if x40 = true then (some false) else (skywaykeep1_PolygonOverlap.l0 k x0 x1 x5 false x0 (x0.length : Int) 0)
def skywaykeep1_PolygonOverlap.l0 : Nat → List (S41) → List (S41) → Bool → Bool → List (S41) → Int → Int → Option (Bool)
  | 0, _, _, _, _, _, _, _ => none
  | k + 1, x0, x1, x5, x9, x41, x42, x43 => if x43 < x42 then (if 0 ≤ x43 then (if x43 < (x41.length : Int) then ((polygon_Locate.f k x1 ((rd_T41 x41 x43).f0) ((rd_T41 x41 x43).f1)).bind fun bt253 => (if x9 = true then (skywaykeep1_PolygonOverlap.l0 k x0 x1 x5 true x41 x42 (wrap64 (x43 + 1))) else (skywaykeep1_PolygonOverlap.l0 k x0 x1 x5 (decide (bt253.1 > 0)) x41 x42 (wrap64 (x43 + 1))))) else (none)) else (none)) else ((polygon_Overlap.f k x0 x0).bind fun bt255 => (if x5 = true then (if bt255.2 = 0 then (some bt255.1) else (some false)) else (if x9 = true then (some false) else (if bt255.2 = 0 then (some bt255.1) else (some false)))))
end
def skywaykeep1_PolygonOverlap.f (k : Nat) (l0 : List (S41)) (l1 : List (S41)) : Option (Bool) := (skywaykeep1_polygonWorks.f k).bind fun t246 => (if t246 = true then ((polygon_Overlap.f k l0 l1).bind fun bt247 => (if bt247.2 = 0 then ((polygon_Overlap.f k l1 l0).bind fun bt249 => (if bt249.2 = 0 then (skywaykeep1_PolygonOverlap.j0 k l0 l1 bt247.1 (bt249.1 != bt247.1)) else (skywaykeep1_PolygonOverlap.j0 k l0 l1 bt247.1 true))) else (some (!bt247.1)))) else (some false))
theorem skywaykeep1_PolygonOverlap.mono_l : ∀ k, (∀ y0 y1 y2 y3, LeO (skywaykeep1_PolygonOverlap.j0 k y0 y1 y2 y3) (skywaykeep1_PolygonOverlap.j0 (k + 1) y0 y1 y2 y3)) ∧ (∀ y0 y1 y2 y3 y4 y5 y6, LeO (skywaykeep1_PolygonOverlap.l0 k y0 y1 y2 y3 y4 y5 y6) (skywaykeep1_PolygonOverlap.l0 (k + 1) y0 y1 y2 y3 y4 y5 y6))
  | 0 => ⟨fun _ _ _ _ r h => by simp [skywaykeep1_PolygonOverlap.j0] at h, fun _ _ _ _ _ _ _ r h => by simp [skywaykeep1_PolygonOverlap.l0] at h⟩
  | k + 1 => by
    obtain ⟨ih0, ih1⟩ := skywaykeep1_PolygonOverlap.mono_l k; refine ⟨?_, ?_⟩
    · intro y0 y1 y2 y3; unfold skywaykeep1_PolygonOverlap.j0
      repeat' first
      | (with_reducible exact ih0 _ _ _ _)
      | (with_reducible exact ih1 _ _ _ _ _ _ _)
      | (with_reducible exact polygon_Locate.mono _ _ _ _)
      | (with_reducible exact polygon_Overlap.mono _ _ _)
      | (with_reducible exact skywaykeep1_polygonWorks.mono _)
      | (with_reducible exact LeO.refl _)
      | (with_reducible exact LeO.none _)
      | (with_reducible refine LeO.ite ?_ ?_)
      | (with_reducible refine LeO.bind ?_ (fun _ => ?_))
      | exact ih0 _ _ _ _
      | exact ih1 _ _ _ _ _ _ _
      | exact polygon_Locate.mono _ _ _ _
      | exact polygon_Overlap.mono _ _ _
      | exact skywaykeep1_polygonWorks.mono _
      | exact LeO.none _
      | refine LeO.ite ?_ ?_
      | refine LeO.bind ?_ (fun _ => ?_)
    · intro y0 y1 y2 y3 y4 y5 y6; unfold skywaykeep1_PolygonOverlap.l0
      repeat' first
      | (with_reducible exact ih0 _ _ _ _)
      | (with_reducible exact ih1 _ _ _ _ _ _ _)
      | (with_reducible exact polygon_Locate.mono _ _ _ _)
      | (with_reducible exact polygon_Overlap.mono _ _ _)
      | (with_reducible exact skywaykeep1_polygonWorks.mono _)
      | (with_reducible exact LeO.refl _)
      | (with_reducible exact LeO.none _)
      | (with_reducible refine LeO.ite ?_ ?_)
      | (with_reducible refine LeO.bind ?_ (fun _ => ?_))
      | exact ih0 _ _ _ _
      | exact ih1 _ _ _ _ _ _ _
      | exact polygon_Locate.mono _ _ _ _
      | exact polygon_Overlap.mono _ _ _
      | exact skywaykeep1_polygonWorks.mono _
      | exact LeO.none _
      | refine LeO.ite ?_ ?_
      | refine LeO.bind ?_ (fun _ => ?_)
theorem skywaykeep1_PolygonOverlap.mono : ∀ a0 a1 k, LeO (skywaykeep1_PolygonOverlap.f k a0 a1) (skywaykeep1_PolygonOverlap.f (k + 1) a0 a1) := by
  intro a0 a1 k; obtain ⟨ih0, ih1⟩ := skywaykeep1_PolygonOverlap.mono_l k; unfold skywaykeep1_PolygonOverlap.f
  repeat' first
      | (with_reducible exact ih0 _ _ _ _)
      | (with_reducible exact ih1 _ _ _ _ _ _ _)
      | (with_reducible exact polygon_Locate.mono _ _ _ _)
      | (with_reducible exact polygon_Overlap.mono _ _ _)
      | (with_reducible exact skywaykeep1_polygonWorks.mono _)
      | (with_reducible exact LeO.refl _)
      | (with_reducible exact LeO.none _)
      | (with_reducible refine LeO.ite ?_ ?_)
      | (with_reducible refine LeO.bind ?_ (fun _ => ?_))
      | exact ih0 _ _ _ _
      | exact ih1 _ _ _ _ _ _ _
      | exact polygon_Locate.mono _ _ _ _
      | exact polygon_Overlap.mono _ _ _
      | exact skywaykeep1_polygonWorks.mono _
      | exact LeO.none _
      | refine LeO.ite ?_ ?_
      | refine LeO.bind ?_ (fun _ => ?_)
set_option maxHeartbeats 8000000 in
set_option maxRecDepth 100000 in
theorem skywaykeep1_PolygonOverlap.calls (k : Nat) (A0 : Option Addr) (c0 : Nat) (l0 : List (S41)) (A1 : Option Addr) (c1 : Nat) (l1 : List (S41)) (r : Bool) (w : World) (hr0 : Kd.C k41 w A0 l0.length l0) (hc0 : l0.length ≤ c0) (hr1 : Kd.C k41 w A1 l1.length l1) (hc1 : l1.length ≤ c1) (h : skywaykeep1_PolygonOverlap.f k l0 l1 = some r) :
    Calls Try.prog 5 #[.slice A0 l0.length c0, .slice A1 l1.length c1] w fun e w' => e = .returned (.bool r) ∧ Below w.heap.size w w' := by
 have hu41 := Try.underlying41; have HR0 := Aside0.mk hr0; have HC0 := Aside0.mk hc0; clear hr0 hc0; have HR1 := Aside0.mk hr1; have HC1 := Aside0.mk hc1; clear hr1 hc1; have HB := Aside0.mk (Below.refl w.heap.size w); have H : ((skywaykeep1_polygonWorks.f k).bind fun t246 => (if t246 = true then ((polygon_Overlap.f k l0 l1).bind fun bt247 => (if bt247.2 = 0 then ((polygon_Overlap.f k l1 l0).bind fun bt249 => (if bt249.2 = 0 then (skywaykeep1_PolygonOverlap.j0 k l0 l1 bt247.1 (bt249.1 != bt247.1)) else (skywaykeep1_PolygonOverlap.j0 k l0 l1 bt247.1 true))) else (some (!bt247.1)))) else (some false))) = some r := h; clear h; replace H := Option.bind_eq_some_iff.mp H; obtain ⟨t246, A30, H⟩ := H; replace H : (if t246 = true then ((polygon_Overlap.f k l0 l1).bind fun bt247 => (if bt247.2 = 0 then ((polygon_Overlap.f k l1 l0).bind fun bt249 => (if bt249.2 = 0 then (skywaykeep1_PolygonOverlap.j0 k l0 l1 bt247.1 (bt249.1 != bt247.1)) else (skywaykeep1_PolygonOverlap.j0 k l0 l1 bt247.1 true))) else (some (!bt247.1)))) else (some false)) = some r := H; have A3 := Aside0.mk A30; clear A30; refine Or.elim (Classical.em (t246 = true)) (fun c4 => ?p2_) (fun c4 => ?n2_)
 case' p2_ =>
  subst c4
  have H1 : ((polygon_Overlap.f k l0 l1).bind fun bt247 => (if bt247.2 = 0 then ((polygon_Overlap.f k l1 l0).bind fun bt249 => (if bt249.2 = 0 then (skywaykeep1_PolygonOverlap.j0 k l0 l1 bt247.1 (bt249.1 != bt247.1)) else (skywaykeep1_PolygonOverlap.j0 k l0 l1 bt247.1 true))) else (some (!bt247.1)))) = some r := by rw [if_pos rfl] at H; exact H
  clear H; have H := H1; clear H1; replace H := Option.bind_eq_some_iff.mp H; obtain ⟨⟨t247, t248⟩, A50, H⟩ := H; replace H : (if t248 = 0 then ((polygon_Overlap.f k l1 l0).bind fun bt249 => (if bt249.2 = 0 then (skywaykeep1_PolygonOverlap.j0 k l0 l1 t247 (bt249.1 != t247)) else (skywaykeep1_PolygonOverlap.j0 k l0 l1 t247 true))) else (some (!t247))) = some r := H; have A5 := Aside0.mk A50; clear A50; refine Or.elim (Classical.em (t248 = 0)) (fun c6 => ?p3_) (fun c6 => ?n3_)
  case' p3_ =>
   rw [if_pos c6] at H; have c6b0 : (t248 == 0) = true := beq_iff_eq.mpr c6; have c6b1 : (t248 != 0) = false := bne_eq_false_iff_eq.mpr c6; clear c6; replace H := Option.bind_eq_some_iff.mp H; obtain ⟨⟨t249, t250⟩, A70, H⟩ := H; replace H : (if t250 = 0 then (skywaykeep1_PolygonOverlap.j0 k l0 l1 t247 (t249 != t247)) else (skywaykeep1_PolygonOverlap.j0 k l0 l1 t247 true)) = some r := H; have A7 := Aside0.mk A70; clear A70; have HC8 := Aside0.mk H; clear H; have hm1_0 := Aside0.mk trivial
  case' n3_ =>
   rw [if_neg c6] at H; have c6b0 : (t248 == 0) = false := beq_eq_false_iff_ne.mpr c6; have c6b1 : (t248 != 0) = true := bne_iff_ne.mpr c6; have hm1_1 := Aside0.mk trivial
 case' n2_ =>
  replace c4 := Bool.eq_false_iff.mpr c4; subst c4
  have H1 : (some false) = some r := by rw [if_neg (show ¬ (false = true) by decide)] at H; exact H
  clear H; have H := H1; clear H1; have hm1_1 := Aside0.mk trivial
 all_goals
  first
   | clear hm1_0; go_enter Try.func5, Try.ntmps5
     go_upto_region 7 with (first | ((with_reducible refine gate_callee (f := 15) rfl ?_); refine goesL_ (some 16) rfl rfl Try.func15 (by kernel_rfl) rfl #[] rfl any_s ?_; (with_reducible refine (skywaykeep1_polygonWorks.calls k  true _ A3.out).mono ?_); rintro e wx11301 ⟨rfl, hb⟩; refine ⟨_, rfl, ?_⟩; have n0_ := st HB hb; clear HB; have HB := n0_; clear n0_; (try clear hb); (try clear hb2); (try clear hk); (try clear hi)) | ((with_reducible refine gate_callee (f := 16) rfl ?_); refine goesL_ (some 21) rfl rfl Try.func16 (by kernel_rfl) rfl #[.slice A0 l0.length c0, .slice A1 l1.length c1] rfl any_s ?_; (with_reducible refine (polygon_Overlap.calls k _ _ l0 _ _ l1 t247 t248 _ ?side1 ?side2 ?side3 ?side4 A5.out).mono ?_); (case side1 => exact cb_s (Kd.C_below HR0.out HB.out)); (case side2 => exact HC0.out); (case side3 => exact cb_s (Kd.C_below HR1.out HB.out)); (case side4 => exact HC1.out); rintro e wxd6d91 ⟨rfl, hb⟩; refine ⟨_, rfl, ?_⟩; have n0_ := st HB hb; clear HB; have HB := n0_; clear n0_; (try clear hb); (try clear hb2); (try clear hk); (try clear hi)) | ((with_reducible refine gate_callee (f := 16) rfl ?_); refine goesL_ (some 31) rfl rfl Try.func16 (by kernel_rfl) rfl #[.slice A1 l1.length c1, .slice A0 l0.length c0] rfl any_s ?_; (with_reducible refine (polygon_Overlap.calls k _ _ l1 _ _ l0 t249 t250 _ ?side1 ?side2 ?side3 ?side4 A7.out).mono ?_); (case side1 => exact cb_s (Kd.C_below HR1.out HB.out)); (case side2 => exact HC1.out); (case side3 => exact cb_s (Kd.C_below HR0.out HB.out)); (case side4 => exact HC0.out); rintro e wx28f61 ⟨rfl, hb⟩; refine ⟨_, rfl, ?_⟩; have n0_ := st HB hb; clear HB; have HB := n0_; clear n0_; (try clear hb); (try clear hb2); (try clear hk); (try clear hi)))
     (try simp only [Act.put, List.setIfInBounds_toArray, List.set_cons_zero, List.set_cons_succ])
     go_cut [40] (fun v40 wc => ∃ (kq : Nat) (x40_7 : Bool), v40 = .bool x40_7 ∧ Aside0 (skywaykeep1_PolygonOverlap.j0 kq l0 l1 t247 x40_7 = some r) ∧ Aside0 (kq ≤ k) ∧ Aside0 (Below w.heap.size w wc))
     case first =>
      have H := HC8.out; clear HC8; refine Or.elim (Classical.em (t250 = 0)) (fun c12 => ?p5_) (fun c12 => ?n5_)
      case' p5_ =>
       rw [if_pos c12] at H; have c12b0 : (t250 == 0) = true := beq_iff_eq.mpr c12; have c12b1 : (t250 != 0) = false := bne_eq_false_iff_eq.mpr c12; clear c12
       (first | rw [c12b0] | (simp only [i64_w, i32_w]; rw [c12b0]) | skip)
      case' n5_ =>
       rw [if_neg c12] at H; have c12b0 : (t250 == 0) = false := beq_eq_false_iff_ne.mpr c12; have c12b1 : (t250 != 0) = true := bne_iff_ne.mpr c12
       (first | rw [c12b0] | (simp only [i64_w, i32_w]; rw [c12b0]) | skip)
      all_goals
       have H' := Aside0.mk H; clear H; go_wp2; go_meet
       case rel => first | (exact ⟨_, ((t249 != t247)), (by first | rfl | (simp; done) | (simp [*]; done)), H', ⟨by first | omega | exact Nat.le_refl _⟩, ⟨by repeat (first | (with_reducible first | exact HB.out | apply below_alloc | apply pw_below_drewN | apply below_drew1) | exact HB.out)⟩⟩) | (exact ⟨_, (true), (by first | rfl | (simp; done) | (simp [*]; done)), H', ⟨by first | omega | exact Nat.le_refl _⟩, ⟨by repeat (first | (with_reducible first | exact HB.out | apply below_alloc | apply pw_below_drewN | apply below_drew1) | exact HB.out)⟩⟩)
     case rest =>
      clear HC8
      (try clear c1); (try clear p1); (try clear p2); (try clear c4); (try clear c5); (try clear c6); (try clear c6b0); (try clear c6b1); (try clear c12); (try clear c12b0); (try clear c12b1)
      obtain ⟨kq, x40_7, rfl, HA, HJ7, HB⟩ := hcut
      cases kq with
      | zero => exact absurd HA.out (by simp [skywaykeep1_PolygonOverlap.j0])
      | succ kj7 =>
       have H := HA.out; clear HA; simp only [skywaykeep1_PolygonOverlap.j0] at H
       by_cases c13 : x40_7 = true
       · subst c13
         have H1 : (some false) = some r := by rw [if_pos rfl] at H; exact H
         clear H; have H := H1; clear H1; obtain rfl := Option.some.inj H; go_wp2; go_ret
         exact ⟨by first | rfl | (simp [errW_none, errW_some] <;> rfl) | (simp [*, errW_none, errW_some] <;> rfl), by repeat (first | (with_reducible first | exact HB.out | apply below_alloc | apply pw_below_drewN | apply below_drew1) | exact HB.out)⟩
       · replace c13 := Bool.eq_false_iff.mpr c13; subst c13
         have H1 : (skywaykeep1_PolygonOverlap.l0 kj7 l0 l1 t247 false l0 (l0.length : Int) 0) = some r := by rw [if_neg (show ¬ (false = true) by decide)] at H; exact H
         clear H; have H := H1; clear H1; have H' := Aside0.mk H; clear H; go_wp2; go_loopg [9, 43] kj7 (fun kq v9 v43 w' => ∃ (x9_2 : Bool) (x43_2 : Int), v9 = .bool x9_2 ∧ v43 = .int .i64 x43_2 ∧ Aside0 (skywaykeep1_PolygonOverlap.l0 kq l0 l1 t247 x9_2 l0 (l0.length : Int) x43_2 = some r) ∧ Aside0 (kq ≤ kj7) ∧ Aside0 (Below w.heap.size w w'))
         case atStart => exact ⟨(false), (0), (by first | rfl | (simp; done) | (simp [*]; done)), (by first | rfl | (simp; done) | (simp [*]; done)), H', ⟨Nat.le_refl _⟩, ⟨by repeat (first | (with_reducible first | exact HB.out | apply below_alloc | apply pw_below_drewN | apply below_drew1) | exact HB.out)⟩⟩
         case round =>
          clear H'
          (try clear c1); (try clear p1); (try clear p2); (try clear c4); (try clear c5); (try clear c6); (try clear c6b0); (try clear c6b1); (try clear c12); (try clear c12b0); (try clear c12b1); (try clear c13); (try clear p1); (try clear p2)
          obtain ⟨x9_2, x43_2, rfl, rfl, HA, HK2, HB⟩ := hrel
          cases gk with
          | zero => exact absurd HA.out (by simp [skywaykeep1_PolygonOverlap.l0])
          | succ k2 =>
           have H := HA.out; clear HA; simp only [skywaykeep1_PolygonOverlap.l0] at H; refine Or.elim (Classical.em (x43_2 < (l0.length : Int))) (fun c14 => ?p7_) (fun c14 => ?n7_)
           case' p7_ =>
            rw [if_pos c14] at H; have c14b0 : decide (x43_2 < (l0.length : Int)) = true := decide_eq_true c14; clear c14; refine Or.elim (Classical.em (0 ≤ x43_2)) (fun c15 => ?p8_) (fun c15 => ?n8_)
            case' p8_ =>
             rw [if_pos c15] at H; have c15b0 : decide (0 ≤ x43_2) = true := decide_eq_true c15; clear c15; refine Or.elim (Classical.em (x43_2 < (l0.length : Int))) (fun c16 => ?p9_) (fun c16 => ?n9_)
             case' p9_ =>
              rw [if_pos c16] at H; have c16b0 : decide (x43_2 < (l0.length : Int)) = true := decide_eq_true c16; clear c16; replace H := Option.bind_eq_some_iff.mp H; obtain ⟨⟨t253, t254⟩, A170, H⟩ := H; replace H : (if x9_2 = true then (skywaykeep1_PolygonOverlap.l0 k2 l0 l1 t247 true l0 (l0.length : Int) (wrap64 (x43_2 + 1))) else (skywaykeep1_PolygonOverlap.l0 k2 l0 l1 t247 (decide (t253 > 0)) l0 (l0.length : Int) (wrap64 (x43_2 + 1)))) = some r := H; have A17 := Aside0.mk A170; clear A170; refine Or.elim (Classical.em (x9_2 = true)) (fun c18 => ?p10_) (fun c18 => ?n10_)
              case' p10_ =>
               subst c18
               have H1 : (skywaykeep1_PolygonOverlap.l0 k2 l0 l1 t247 true l0 (l0.length : Int) (wrap64 (x43_2 + 1))) = some r := by rw [if_pos rfl] at H; exact H
               clear H; have H := H1; clear H1; have hm6_0 := Aside0.mk trivial
              case' n10_ =>
               replace c18 := Bool.eq_false_iff.mpr c18; subst c18
               have H1 : (skywaykeep1_PolygonOverlap.l0 k2 l0 l1 t247 (decide (t253 > 0)) l0 (l0.length : Int) (wrap64 (x43_2 + 1))) = some r := by rw [if_neg (show ¬ (false = true) by decide)] at H; exact H
               clear H; have H := H1; clear H1; have hm6_0 := Aside0.mk trivial
             case' n9_ =>
              rw [if_neg c16] at H; exact absurd H (by simp)
            case' n8_ =>
             rw [if_neg c15] at H; exact absurd H (by simp)
           case' n7_ =>
            rw [if_neg c14] at H; have c14b0 : decide (x43_2 < (l0.length : Int)) = false := decide_eq_false c14; clear c14; replace H := Option.bind_eq_some_iff.mp H; obtain ⟨⟨t255, t256⟩, A250, H⟩ := H; replace H : (if t247 = true then (if t256 = 0 then (some t255) else (some false)) else (if x9_2 = true then (some false) else (if t256 = 0 then (some t255) else (some false)))) = some r := H; have A25 := Aside0.mk A250; clear A250; refine Or.elim (Classical.em (t247 = true)) (fun c26 => ?p11_) (fun c26 => ?n11_)
            case' p11_ =>
             subst c26
             have H1 : (if t256 = 0 then (some t255) else (some false)) = some r := by rw [if_pos rfl] at H; exact H
             clear H; have H := H1; clear H1; refine Or.elim (Classical.em (t256 = 0)) (fun c27 => ?p12_) (fun c27 => ?n12_)
             case' p12_ =>
              rw [if_pos c27] at H; have c27b0 : (t256 == 0) = true := beq_iff_eq.mpr c27; have c27b1 : (t256 != 0) = false := bne_eq_false_iff_eq.mpr c27; clear c27; have hm6_1 := Aside0.mk trivial
             case' n12_ =>
              rw [if_neg c27] at H; have c27b0 : (t256 == 0) = false := beq_eq_false_iff_ne.mpr c27; have c27b1 : (t256 != 0) = true := bne_iff_ne.mpr c27; have hm6_1 := Aside0.mk trivial
            case' n11_ =>
             replace c26 := Bool.eq_false_iff.mpr c26; subst c26
             have H1 : (if x9_2 = true then (some false) else (if t256 = 0 then (some t255) else (some false))) = some r := by rw [if_neg (show ¬ (false = true) by decide)] at H; exact H
             clear H; have H := H1; clear H1; refine Or.elim (Classical.em (x9_2 = true)) (fun c30 => ?p13_) (fun c30 => ?n13_)
             case' p13_ =>
              subst c30
              have H1 : (some false) = some r := by rw [if_pos rfl] at H; exact H
              clear H; have H := H1; clear H1; have hm6_1 := Aside0.mk trivial
             case' n13_ =>
              replace c30 := Bool.eq_false_iff.mpr c30; subst c30
              have H1 : (if t256 = 0 then (some t255) else (some false)) = some r := by rw [if_neg (show ¬ (false = true) by decide)] at H; exact H
              clear H; have H := H1; clear H1; refine Or.elim (Classical.em (t256 = 0)) (fun c32 => ?p14_) (fun c32 => ?n14_)
              case' p14_ =>
               rw [if_pos c32] at H; have c32b0 : (t256 == 0) = true := beq_iff_eq.mpr c32; have c32b1 : (t256 != 0) = false := bne_eq_false_iff_eq.mpr c32; clear c32; have hm6_1 := Aside0.mk trivial
              case' n14_ =>
               rw [if_neg c32] at H; have c32b0 : (t256 == 0) = false := beq_eq_false_iff_ne.mpr c32; have c32b1 : (t256 != 0) = true := bne_iff_ne.mpr c32; have hm6_1 := Aside0.mk trivial
           all_goals
            first
             | clear hm6_0; have H' := Aside0.mk H; clear H
               have p251 : 0 ≤ (x43_2 : Int) := of_decide_eq_true (by first | (with_reducible assumption) | assumption)
               have q251 : x43_2 < (l0.length : Int) := of_decide_eq_true (by first | (with_reducible assumption) | assumption)
               obtain ⟨ad251, e251, hx251_0, hx251_1⟩ := at_T41 HR0.out x43_2 p251 q251; cases e251; replace hx251_0 := cl HB hx251_0; replace hx251_1 := cl HB hx251_1; replace p251 := eq_true p251; replace q251 := eq_true q251
               go_wp2_with (first | ((with_reducible refine gate_dst (N := 11) rfl ?_); refine box_s #[.int .i64 0, .int .i64 0] 41 ?_; intro gb252 hg wx07ae1 hbox hb; have n0_ := st HB hb; have n1_ := Aside0.mk (hbox); have n2_ := ge HB hg; have n3_ := ge HB hg; clear HB; have HB := n0_; have BK252 := n1_; have GW252 := n2_; have GE252 := n3_; clear n0_ n1_ n2_ n3_; clear hb hbox hg; have hczx07ae1 : wx07ae1.cell? ⟨gb252, 0, none⟩ = some (.int .i64 0) := bc BK252 0; have hczx07ae2 : wx07ae1.cell? ⟨gb252, 1, none⟩ = some (.int .i64 0) := bc BK252 1; have hfzx07ae1 := blk_frozen BK252.out 0; have hfzx07ae2 := blk_frozen BK252.out 1) | ((with_reducible refine gate_callee (f := 17) rfl ?_); refine goesL_ (some 50) rfl rfl Try.func17 (by kernel_rfl) rfl #[.slice A1 l1.length c1, .agg #[.int .i64 ((rd_T41 l0 x43_2).f0), .int .i64 ((rd_T41 l0 x43_2).f1)]] rfl any_s ?_; (with_reducible refine (polygon_Locate.calls k2 _ _ l1 ((rd_T41 l0 x43_2).f0) ((rd_T41 l0 x43_2).f1) t253 t254 _ ?side1 ?side2 A17.out).mono ?_); (case side1 => exact Kd.C_below HR1.out bel_s); (case side2 => exact HC1.out); rintro e wx89dd1 ⟨rfl, hb⟩; refine ⟨_, rfl, ?_⟩; have n0_ := Aside0.mk (blk_below (g := gb252) (o := .cells #[.int .i64 ((rd_T41 l0 x43_2).f0), .int .i64 ((rd_T41 l0 x43_2).f1)] 41 (0, 0)) (by (with_reducible repeat (first | refine blk_drewN ?_ _ | refine blk_drew ?_ | refine blk_alloc ?_ _)); refine blk_put (cs := #[.int .i64 ((rd_T41 l0 x43_2).f0), .int .i64 0]) ?_ 1 _ rfl; (with_reducible repeat (first | refine blk_drewN ?_ _ | refine blk_drew ?_ | refine blk_alloc ?_ _)); refine blk_put (cs := #[.int .i64 0, .int .i64 0]) ?_ 0 _ rfl; (with_reducible repeat (first | refine blk_drewN ?_ _ | refine blk_drew ?_ | refine blk_alloc ?_ _)); exact BK252.out) hb); have n1_ := st HB hb; clear BK252; clear HB; have BK252 := n0_; have HB := n1_; clear n0_ n1_; (try clear hb); (try clear hb2); (try clear hk); (try clear hi)))
               go_roundg k2
               case measure => have := HJ7.out; have := HK2.out; omega
               case rel => first | (exact ⟨(true), (wrap64 (x43_2 + 1)), (by first | rfl | (simp; done) | (simp [*]; done)), (by first | rfl | (simp; done) | (simp [*]; done)), H', ⟨by have := HJ7.out; have := HK2.out; omega⟩, ⟨by repeat (first | (with_reducible first | exact HB.out | apply below_alloc | apply pw_below_drewN | apply below_drew1 | refine below_set ?_ GE252.out) | exact HB.out)⟩⟩) | (exact ⟨(decide (t253 > 0)), (wrap64 (x43_2 + 1)), (by first | rfl | (simp; done) | (simp [*]; done)), (by first | rfl | (simp; done) | (simp [*]; done)), H', ⟨by have := HJ7.out; have := HK2.out; omega⟩, ⟨by repeat (first | (with_reducible first | exact HB.out | apply below_alloc | apply pw_below_drewN | apply below_drew1 | refine below_set ?_ GE252.out) | exact HB.out)⟩⟩)
             | clear hm6_1; obtain rfl := Option.some.inj H
               go_wp2_with (first | ((with_reducible refine gate_callee (f := 16) rfl ?_); refine goesL_ (some 62) rfl rfl Try.func16 (by kernel_rfl) rfl #[.slice A0 l0.length c0, .slice A0 l0.length c0] rfl any_s ?_; (with_reducible refine (polygon_Overlap.calls k2 _ _ l0 _ _ l0 t255 t256 _ ?side1 ?side2 ?side3 ?side4 A25.out).mono ?_); (case side1 => exact cb_s (Kd.C_below HR0.out HB.out)); (case side2 => exact HC0.out); (case side3 => exact cb_s (Kd.C_below HR0.out HB.out)); (case side4 => exact HC0.out); rintro e wxdb601 ⟨rfl, hb⟩; refine ⟨_, rfl, ?_⟩; have n0_ := st HB hb; clear HB; have HB := n0_; clear n0_; (try clear hb); (try clear hb2); (try clear hk); (try clear hi)))
               go_ret
               exact ⟨by first | rfl | (simp [errW_none, errW_some] <;> rfl) | (simp [*, errW_none, errW_some] <;> rfl), by repeat (first | (with_reducible first | exact HB.out | apply below_alloc | apply pw_below_drewN | apply below_drew1) | exact HB.out)⟩
   | clear hm1_1; obtain rfl := Option.some.inj H; go_enter Try.func5, Try.ntmps5
     go_wp2_with (first | ((with_reducible refine gate_callee (f := 15) rfl ?_); refine goesL_ (some 16) rfl rfl Try.func15 (by kernel_rfl) rfl #[] rfl any_s ?_; (with_reducible refine (skywaykeep1_polygonWorks.calls k  false _ A3.out).mono ?_); rintro e wxaec51 ⟨rfl, hb⟩; refine ⟨_, rfl, ?_⟩; have n0_ := st HB hb; clear HB; have HB := n0_; clear n0_; (try clear hb); (try clear hb2); (try clear hk); (try clear hi)) | ((with_reducible refine gate_callee (f := 15) rfl ?_); refine goesL_ (some 16) rfl rfl Try.func15 (by kernel_rfl) rfl #[] rfl any_s ?_; (with_reducible refine (skywaykeep1_polygonWorks.calls k  true _ A3.out).mono ?_); rintro e wx11301 ⟨rfl, hb⟩; refine ⟨_, rfl, ?_⟩; have n0_ := st HB hb; clear HB; have HB := n0_; clear n0_; (try clear hb); (try clear hb2); (try clear hk); (try clear hi)) | ((with_reducible refine gate_callee (f := 16) rfl ?_); refine goesL_ (some 21) rfl rfl Try.func16 (by kernel_rfl) rfl #[.slice A0 l0.length c0, .slice A1 l1.length c1] rfl any_s ?_; (with_reducible refine (polygon_Overlap.calls k _ _ l0 _ _ l1 t247 t248 _ ?side1 ?side2 ?side3 ?side4 A5.out).mono ?_); (case side1 => exact cb_s (Kd.C_below HR0.out HB.out)); (case side2 => exact HC0.out); (case side3 => exact cb_s (Kd.C_below HR1.out HB.out)); (case side4 => exact HC1.out); rintro e wxd6d91 ⟨rfl, hb⟩; refine ⟨_, rfl, ?_⟩; have n0_ := st HB hb; clear HB; have HB := n0_; clear n0_; (try clear hb); (try clear hb2); (try clear hk); (try clear hi)))
     go_ret
     exact ⟨by first | rfl | (simp [errW_none, errW_some] <;> rfl) | (simp [*, errW_none, errW_some] <;> rfl), by repeat (first | (with_reducible first | exact HB.out | apply below_alloc | apply pw_below_drewN | apply below_drew1) | exact HB.out)⟩

/-- What is told of a value of struct type 41 that came in. -/
def good41 (x : S41) : Prop := ((Lit.int .i64 x.f0).wf = true) ∧ (Lit.int .i64 x.f1).wf = true
/-- THE ONE PURE STATEMENT of skywaykeep1_PolygonOverlap. -/
def skywaykeep1_PolygonOverlap.Pure : Prop := ∀ (l0 : List (S41)) (l1 : List (S41)), (l0.length * 16 ≤ 140737488351232 ∧ ∀ y0 ∈ l0, good41 y0) → (l1.length * 16 ≤ 140737488351232 ∧ ∀ y0 ∈ l1, good41 y0) → ∃ k, skywaykeep1_PolygonOverlap.f k l0 l1 = some true

end Go.Proofs.Ythghilclgobpbaa.PPolygonOverlap
