/- Made by a program of this session (wip/tools/myprint.py, over the kit's printer): that the Go functions answer as the Lean functions printed beside them. -/
import Derived.Test.YteaddpieonkboaaPPolygonApartx0
import Derived.Test.YteaddpieonkboaaPPolygonApartx4
import Derived.Test.YteaddpieonkboaaPPolygonApartx6
namespace Go.Proofs.Yteaddpieonkboaa.PPolygonApart
open Go.RowKit Go.Proofs.YteaddpieonkboaaW.PrintWords Go.Proofs.YteaddpieonkboaaW.PrintLast Go.Proofs.YteaddpieonkboaaW.PrintMore
attribute [local go_sem] max2_int min2_int max_two min_two max_three min_three max_four min_four   -- for this text's walks alone
set_option linter.unusedVariables false
set_option linter.unusedSimpArgs false

/-! ### skywaykeep1_PolygonApart: function 3 -/
mutual
def skywaykeep1_PolygonApart.j0 : Nat → List (S25) → Int → Bool → Int → Bool → Int → Int → Option (Bool)
  | 0, _, _, _, _, _, _, _ => none
  | k + 1, x0, x2, x7, x9, x42, x226000, x226001 => if x42 = true then (some false) else (skywaykeep1_PolygonApart.l0 k x0 x2 x7 x9 x0 (x0.length : Int) 0 x226000 x226001)
def skywaykeep1_PolygonApart.l0 : Nat → List (S25) → Int → Bool → Int → List (S25) → Int → Int → Int → Int → Option (Bool)
  | 0, _, _, _, _, _, _, _, _, _ => none
  | k + 1, x0, x2, x7, x9, x43, x44, x45, x226000, x226001 => if x45 < x44 then (if 0 ≤ x45 then (if x45 < (x43.length : Int) then (if x7 = true then ((plane_Within.f ((rd_T25 x43 x45).f0) ((rd_T25 x43 x45).f1) x226000 x226001 x2).bind fun t233 => (if t233 = true then (some false) else (skywaykeep1_PolygonApart.l0 k x0 x2 x7 x9 x43 x44 (wrap64 (x45 + 1)) x226000 x226001))) else (skywaykeep1_PolygonApart.l0 k x0 x2 x7 x9 x43 x44 (wrap64 (x45 + 1)) x226000 x226001)) else (none)) else (none)) else ((polygon_Apart.f k x0 x226000 x226001 (wrap64 (Int.tdiv x2 2))).bind fun bt234 => (if bt234.2 = 0 then (if x7 = true then (if bt234.1 = true then (some true) else (some false)) else (if x2 > 0 then (some true) else (some (decide (x9 ≥ 0))))) else (some false)))
end
def skywaykeep1_PolygonApart.f (k : Nat) (l0 : List (S25)) (a1_0 : Int) (a1_1 : Int) (a2 : Int) : Option (Bool) := (skywaykeep1_polygonWorks.f k).bind fun t226 => (if t226 = true then ((polygon_Apart.f k l0 a1_0 a1_1 a2).bind fun bt227 => (if bt227.2 = 0 then ((polygon_Locate.f k l0 a1_0 a1_1).bind fun bt229 => (if bt229.2 = 0 then (if bt227.1 = true then (skywaykeep1_PolygonApart.j0 k l0 a2 bt227.1 bt229.1 (decide (bt229.1 ≥ 0)) a1_0 a1_1) else (skywaykeep1_PolygonApart.j0 k l0 a2 bt227.1 bt229.1 false a1_0 a1_1)) else (skywaykeep1_PolygonApart.j0 k l0 a2 bt227.1 bt229.1 true a1_0 a1_1))) else (some (!bt227.1)))) else (some false))
theorem skywaykeep1_PolygonApart.mono_l : ∀ k, (∀ y0 y1 y2 y3 y4 y5 y6, LeO (skywaykeep1_PolygonApart.j0 k y0 y1 y2 y3 y4 y5 y6) (skywaykeep1_PolygonApart.j0 (k + 1) y0 y1 y2 y3 y4 y5 y6)) ∧ (∀ y0 y1 y2 y3 y4 y5 y6 y7 y8, LeO (skywaykeep1_PolygonApart.l0 k y0 y1 y2 y3 y4 y5 y6 y7 y8) (skywaykeep1_PolygonApart.l0 (k + 1) y0 y1 y2 y3 y4 y5 y6 y7 y8))
  | 0 => ⟨fun _ _ _ _ _ _ _ r h => by simp [skywaykeep1_PolygonApart.j0] at h, fun _ _ _ _ _ _ _ _ _ r h => by simp [skywaykeep1_PolygonApart.l0] at h⟩
  | k + 1 => by
    obtain ⟨ih0, ih1⟩ := skywaykeep1_PolygonApart.mono_l k
    refine ⟨?_, ?_⟩
    · intro y0 y1 y2 y3 y4 y5 y6
      unfold skywaykeep1_PolygonApart.j0
      repeat' first
      | (with_reducible exact ih0 _ _ _ _ _ _ _)
      | (with_reducible exact ih1 _ _ _ _ _ _ _ _ _)
      | (with_reducible exact polygon_Apart.mono _ _ _ _ _)
      | (with_reducible exact polygon_Locate.mono _ _ _ _)
      | (with_reducible exact skywaykeep1_polygonWorks.mono _)
      | (with_reducible exact LeO.refl _)
      | (with_reducible exact LeO.none _)
      | (with_reducible refine LeO.ite ?_ ?_)
      | (with_reducible refine LeO.bind ?_ (fun _ => ?_))
      | exact ih0 _ _ _ _ _ _ _
      | exact ih1 _ _ _ _ _ _ _ _ _
      | exact polygon_Apart.mono _ _ _ _ _
      | exact polygon_Locate.mono _ _ _ _
      | exact skywaykeep1_polygonWorks.mono _
      | exact LeO.none _
      | refine LeO.ite ?_ ?_
      | refine LeO.bind ?_ (fun _ => ?_)
    · intro y0 y1 y2 y3 y4 y5 y6 y7 y8
      unfold skywaykeep1_PolygonApart.l0
      repeat' first
      | (with_reducible exact ih0 _ _ _ _ _ _ _)
      | (with_reducible exact ih1 _ _ _ _ _ _ _ _ _)
      | (with_reducible exact polygon_Apart.mono _ _ _ _ _)
      | (with_reducible exact polygon_Locate.mono _ _ _ _)
      | (with_reducible exact skywaykeep1_polygonWorks.mono _)
      | (with_reducible exact LeO.refl _)
      | (with_reducible exact LeO.none _)
      | (with_reducible refine LeO.ite ?_ ?_)
      | (with_reducible refine LeO.bind ?_ (fun _ => ?_))
      | exact ih0 _ _ _ _ _ _ _
      | exact ih1 _ _ _ _ _ _ _ _ _
      | exact polygon_Apart.mono _ _ _ _ _
      | exact polygon_Locate.mono _ _ _ _
      | exact skywaykeep1_polygonWorks.mono _
      | exact LeO.none _
      | refine LeO.ite ?_ ?_
      | refine LeO.bind ?_ (fun _ => ?_)
theorem skywaykeep1_PolygonApart.mono : ∀ a0 a1 a2 a3 k, LeO (skywaykeep1_PolygonApart.f k a0 a1 a2 a3) (skywaykeep1_PolygonApart.f (k + 1) a0 a1 a2 a3) := by
  intro a0 a1 a2 a3 k
  obtain ⟨ih0, ih1⟩ := skywaykeep1_PolygonApart.mono_l k
  unfold skywaykeep1_PolygonApart.f
  repeat' first
      | (with_reducible exact ih0 _ _ _ _ _ _ _)
      | (with_reducible exact ih1 _ _ _ _ _ _ _ _ _)
      | (with_reducible exact polygon_Apart.mono _ _ _ _ _)
      | (with_reducible exact polygon_Locate.mono _ _ _ _)
      | (with_reducible exact skywaykeep1_polygonWorks.mono _)
      | (with_reducible exact LeO.refl _)
      | (with_reducible exact LeO.none _)
      | (with_reducible refine LeO.ite ?_ ?_)
      | (with_reducible refine LeO.bind ?_ (fun _ => ?_))
      | exact ih0 _ _ _ _ _ _ _
      | exact ih1 _ _ _ _ _ _ _ _ _
      | exact polygon_Apart.mono _ _ _ _ _
      | exact polygon_Locate.mono _ _ _ _
      | exact skywaykeep1_polygonWorks.mono _
      | exact LeO.none _
      | refine LeO.ite ?_ ?_
      | refine LeO.bind ?_ (fun _ => ?_)
set_option maxHeartbeats 8000000 in
set_option maxRecDepth 100000 in
theorem skywaykeep1_PolygonApart.calls (k : Nat) (A0 : Option Addr) (c0 : Nat) (l0 : List (S25)) (a1_0 : Int) (a1_1 : Int) (a2 : Int) (r : Bool) (w : World) (hr0 : Kd.C k25 w A0 l0.length l0) (hc0 : l0.length ≤ c0) (h : skywaykeep1_PolygonApart.f k l0 a1_0 a1_1 a2 = some r) :
    Calls Try.prog 3 #[.slice A0 l0.length c0, .agg #[.int .i64 a1_0, .int .i64 a1_1], .int .i64 a2] w fun e w' => e = .returned (.bool r) ∧ Below w.heap.size w w' := by
 have hu25 := Try.underlying25
 have HR0 := Aside0.mk hr0
 have HC0 := Aside0.mk hc0
 clear hr0 hc0
 have HB := Aside0.mk (Below.refl w.heap.size w)
 have H : ((skywaykeep1_polygonWorks.f k).bind fun t226 => (if t226 = true then ((polygon_Apart.f k l0 a1_0 a1_1 a2).bind fun bt227 => (if bt227.2 = 0 then ((polygon_Locate.f k l0 a1_0 a1_1).bind fun bt229 => (if bt229.2 = 0 then (if bt227.1 = true then (skywaykeep1_PolygonApart.j0 k l0 a2 bt227.1 bt229.1 (decide (bt229.1 ≥ 0)) a1_0 a1_1) else (skywaykeep1_PolygonApart.j0 k l0 a2 bt227.1 bt229.1 false a1_0 a1_1)) else (skywaykeep1_PolygonApart.j0 k l0 a2 bt227.1 bt229.1 true a1_0 a1_1))) else (some (!bt227.1)))) else (some false))) = some r := h
 clear h
 replace H := Option.bind_eq_some_iff.mp H
 obtain ⟨t226, A40, H⟩ := H
 replace H : (if t226 = true then ((polygon_Apart.f k l0 a1_0 a1_1 a2).bind fun bt227 => (if bt227.2 = 0 then ((polygon_Locate.f k l0 a1_0 a1_1).bind fun bt229 => (if bt229.2 = 0 then (if bt227.1 = true then (skywaykeep1_PolygonApart.j0 k l0 a2 bt227.1 bt229.1 (decide (bt229.1 ≥ 0)) a1_0 a1_1) else (skywaykeep1_PolygonApart.j0 k l0 a2 bt227.1 bt229.1 false a1_0 a1_1)) else (skywaykeep1_PolygonApart.j0 k l0 a2 bt227.1 bt229.1 true a1_0 a1_1))) else (some (!bt227.1)))) else (some false)) = some r := H
 have A4 := Aside0.mk A40
 clear A40
 refine Or.elim (Classical.em (t226 = true)) (fun c5 => ?p2_) (fun c5 => ?n2_)
 case' p2_ =>
  subst c5
  have H1 : ((polygon_Apart.f k l0 a1_0 a1_1 a2).bind fun bt227 => (if bt227.2 = 0 then ((polygon_Locate.f k l0 a1_0 a1_1).bind fun bt229 => (if bt229.2 = 0 then (if bt227.1 = true then (skywaykeep1_PolygonApart.j0 k l0 a2 bt227.1 bt229.1 (decide (bt229.1 ≥ 0)) a1_0 a1_1) else (skywaykeep1_PolygonApart.j0 k l0 a2 bt227.1 bt229.1 false a1_0 a1_1)) else (skywaykeep1_PolygonApart.j0 k l0 a2 bt227.1 bt229.1 true a1_0 a1_1))) else (some (!bt227.1)))) = some r := by rw [if_pos rfl] at H; exact H
  clear H
  have H := H1
  clear H1
  replace H := Option.bind_eq_some_iff.mp H
  obtain ⟨⟨t227, t228⟩, A60, H⟩ := H
  replace H : (if t228 = 0 then ((polygon_Locate.f k l0 a1_0 a1_1).bind fun bt229 => (if bt229.2 = 0 then (if t227 = true then (skywaykeep1_PolygonApart.j0 k l0 a2 t227 bt229.1 (decide (bt229.1 ≥ 0)) a1_0 a1_1) else (skywaykeep1_PolygonApart.j0 k l0 a2 t227 bt229.1 false a1_0 a1_1)) else (skywaykeep1_PolygonApart.j0 k l0 a2 t227 bt229.1 true a1_0 a1_1))) else (some (!t227))) = some r := H
  have A6 := Aside0.mk A60
  clear A60
  refine Or.elim (Classical.em (t228 = 0)) (fun c7 => ?p3_) (fun c7 => ?n3_)
  case' p3_ =>
   rw [if_pos c7] at H
   have c7b0 : (t228 == 0) = true := beq_iff_eq.mpr c7
   have c7b1 : (t228 != 0) = false := bne_eq_false_iff_eq.mpr c7
   clear c7
   replace H := Option.bind_eq_some_iff.mp H
   obtain ⟨⟨t229, t230⟩, A80, H⟩ := H
   replace H : (if t230 = 0 then (if t227 = true then (skywaykeep1_PolygonApart.j0 k l0 a2 t227 t229 (decide (t229 ≥ 0)) a1_0 a1_1) else (skywaykeep1_PolygonApart.j0 k l0 a2 t227 t229 false a1_0 a1_1)) else (skywaykeep1_PolygonApart.j0 k l0 a2 t227 t229 true a1_0 a1_1)) = some r := H
   have A8 := Aside0.mk A80
   clear A80
   have HC9 := Aside0.mk H
   clear H
   have hm1_0 := Aside0.mk trivial
  case' n3_ =>
   rw [if_neg c7] at H
   have c7b0 : (t228 == 0) = false := beq_eq_false_iff_ne.mpr c7
   have c7b1 : (t228 != 0) = true := bne_iff_ne.mpr c7
   have hm1_1 := Aside0.mk trivial
 case' n2_ =>
  replace c5 := Bool.eq_false_iff.mpr c5
  subst c5
  have H1 : (some false) = some r := by rw [if_neg (show ¬ (false = true) by decide)] at H; exact H
  clear H
  have H := H1
  clear H1
  have hm1_1 := Aside0.mk trivial
 all_goals
  first
   | clear hm1_0
     go_enter Try.func3, Try.ntmps3
     go_upto_region 7 with (first | ((with_reducible refine gate_dst (N := 4) rfl ?_); refine box_event ?hg (N := 4) ?hd (cs := #[.int .i64 a1_0, .int .i64 a1_1]) (t := 25) ?hr ?_; (case hd => rfl); (case hg => rfl); (case hr => first | (go_simp; done) | (go_simp; rfl)); intro gb225 hg wx96341 hbox hb; have n0_ := Aside0.mk (below_step (by repeat (first | (with_reducible first | exact HB.out | apply below_alloc | apply pw_below_drewN | apply below_drew1) | exact HB.out)) hb); have n1_ := Aside0.mk (hbox); have n2_ := Aside0.mk ((by rw [hg]; exact (below_size (by repeat (first | (with_reducible first | exact HB.out | apply below_alloc | apply pw_below_drewN | apply below_drew1) | exact HB.out))) : w.heap.size ≤ gb225)); have n3_ := Aside0.mk ((by rw [hg]; exact (below_size (by repeat (first | (with_reducible first | exact HB.out | apply below_alloc | apply pw_below_drewN | apply below_drew1) | exact HB.out))) : w.heap.size ≤ gb225)); clear HB; have HB := n0_; have BK225 := n1_; have GW225 := n2_; have GE225 := n3_; clear n0_ n1_ n2_ n3_; clear hb hbox hg) | ((with_reducible refine gate_callee (f := 15) rfl ?_); refine goesL_ (some 15) rfl rfl Try.func15 (by kernel_rfl) rfl #[] rfl (by (try simp only [List.map_toArray, List.map_cons, List.map_nil]); first | done | rfl | (simp only [List.length_drop, List.length_take]; rfl)) ?_; (with_reducible refine (skywaykeep1_polygonWorks.calls k  true _ A4.out).mono ?_); rintro e wx8f911 ⟨rfl, hb⟩; refine ⟨_, rfl, ?_⟩; have n0_ := Aside0.mk (blk_below (g := gb225) (o := .cells #[.int .i64 a1_0, .int .i64 a1_1] 25 (0, 0)) (by (with_reducible repeat (first | refine blk_drewN ?_ _ | refine blk_drew ?_ | refine blk_alloc ?_ _)); exact BK225.out) hb); have n1_ := Aside0.mk (below_step (by repeat (first | (with_reducible first | exact HB.out | apply below_alloc | apply pw_below_drewN | apply below_drew1 | refine below_set ?_ GE225.out) | exact HB.out)) hb); clear BK225; clear HB; have BK225 := n0_; have HB := n1_; clear n0_ n1_; (try clear hb); (try clear hb2); (try clear hk); (try clear hi); have hczx8f911 : wx8f911.cell? ⟨gb225, 0, none⟩ = some (.int .i64 a1_0) := (blk_cell BK225.out 0).trans rfl; have hczx8f912 : wx8f911.cell? ⟨gb225, 1, none⟩ = some (.int .i64 a1_1) := (blk_cell BK225.out 1).trans rfl; have hfzx8f911 := blk_frozen BK225.out 0; have hfzx8f912 := blk_frozen BK225.out 1) | ((with_reducible refine gate_callee (f := 16) rfl ?_); refine goesL_ (some 21) rfl rfl Try.func16 (by kernel_rfl) rfl #[.slice A0 l0.length c0, .agg #[.int .i64 a1_0, .int .i64 a1_1], .int .i64 a2] rfl (by (try simp only [List.map_toArray, List.map_cons, List.map_nil]); first | done | rfl | (simp only [List.length_drop, List.length_take]; rfl)) ?_; (with_reducible refine (polygon_Apart.calls k _ _ l0 a1_0 a1_1 a2 t227 t228 _ ?side1 ?side2 A6.out).mono ?_); (case side1 => repeat (first | exact (Kd.C_below HR0.out HB.out) | (with_reducible refine Kd.C_alloc ?_ _) | (with_reducible refine Kd.C_drewN ?_ _) | (with_reducible refine Kd.C_drew ?_))); (case side2 => exact HC0.out); rintro e wx41f61 ⟨rfl, hb⟩; refine ⟨_, rfl, ?_⟩; have n0_ := Aside0.mk (blk_below (g := gb225) (o := .cells #[.int .i64 a1_0, .int .i64 a1_1] 25 (0, 0)) (by (with_reducible repeat (first | refine blk_drewN ?_ _ | refine blk_drew ?_ | refine blk_alloc ?_ _)); exact BK225.out) hb); have n1_ := Aside0.mk (below_step (by repeat (first | (with_reducible first | exact HB.out | apply below_alloc | apply pw_below_drewN | apply below_drew1 | refine below_set ?_ GE225.out) | exact HB.out)) hb); clear BK225; clear HB; have BK225 := n0_; have HB := n1_; clear n0_ n1_; (try clear hb); (try clear hb2); (try clear hk); (try clear hi); have hczx41f61 : wx41f61.cell? ⟨gb225, 0, none⟩ = some (.int .i64 a1_0) := (blk_cell BK225.out 0).trans rfl; have hczx41f62 : wx41f61.cell? ⟨gb225, 1, none⟩ = some (.int .i64 a1_1) := (blk_cell BK225.out 1).trans rfl; have hfzx41f61 := blk_frozen BK225.out 0; have hfzx41f62 := blk_frozen BK225.out 1) | ((with_reducible refine gate_callee (f := 17) rfl ?_); refine goesL_ (some 31) rfl rfl Try.func17 (by kernel_rfl) rfl #[.slice A0 l0.length c0, .agg #[.int .i64 a1_0, .int .i64 a1_1]] rfl (by (try simp only [List.map_toArray, List.map_cons, List.map_nil]); first | done | rfl | (simp only [List.length_drop, List.length_take]; rfl)) ?_; (with_reducible refine (polygon_Locate.calls k _ _ l0 a1_0 a1_1 t229 t230 _ ?side1 ?side2 A8.out).mono ?_); (case side1 => repeat (first | exact (Kd.C_below HR0.out HB.out) | (with_reducible refine Kd.C_alloc ?_ _) | (with_reducible refine Kd.C_drewN ?_ _) | (with_reducible refine Kd.C_drew ?_))); (case side2 => exact HC0.out); rintro e wx668f1 ⟨rfl, hb⟩; refine ⟨_, rfl, ?_⟩; have n0_ := Aside0.mk (blk_below (g := gb225) (o := .cells #[.int .i64 a1_0, .int .i64 a1_1] 25 (0, 0)) (by (with_reducible repeat (first | refine blk_drewN ?_ _ | refine blk_drew ?_ | refine blk_alloc ?_ _)); exact BK225.out) hb); have n1_ := Aside0.mk (below_step (by repeat (first | (with_reducible first | exact HB.out | apply below_alloc | apply pw_below_drewN | apply below_drew1 | refine below_set ?_ GE225.out) | exact HB.out)) hb); clear BK225; clear HB; have BK225 := n0_; have HB := n1_; clear n0_ n1_; (try clear hb); (try clear hb2); (try clear hk); (try clear hi)))
     (try simp only [Act.put, List.setIfInBounds_toArray, List.set_cons_zero, List.set_cons_succ])
     go_cut [42] (fun v42 wc => ∃ (kq : Nat) (x42_8 : Bool), v42 = .bool x42_8 ∧ Aside0 (skywaykeep1_PolygonApart.j0 kq l0 a2 t227 t229 x42_8 a1_0 a1_1 = some r) ∧ Aside0 (kq ≤ k) ∧ Aside0 (wc.heap[gb225]? = some (.cells #[.int .i64 a1_0, .int .i64 a1_1] 25 (0, 0))) ∧ Aside0 (Below w.heap.size w wc))
     case first =>
      have H := HC9.out
      clear HC9
      refine Or.elim (Classical.em (t230 = 0)) (fun c16 => ?p5_) (fun c16 => ?n5_)
      case' p5_ =>
       rw [if_pos c16] at H
       have c16b0 : (t230 == 0) = true := beq_iff_eq.mpr c16
       have c16b1 : (t230 != 0) = false := bne_eq_false_iff_eq.mpr c16
       clear c16
       (first | rw [c16b0] | (simp only [i64_w, i32_w]; rw [c16b0]) | skip)
       refine Or.elim (Classical.em (t227 = true)) (fun c17 => ?p6_) (fun c17 => ?n6_)
       case' p6_ =>
        subst c17
        have H1 : (skywaykeep1_PolygonApart.j0 k l0 a2 true t229 (decide (t229 ≥ 0)) a1_0 a1_1) = some r := by rw [if_pos rfl] at H; exact H
        clear H
        have H := H1
        clear H1
       case' n6_ =>
        replace c17 := Bool.eq_false_iff.mpr c17
        subst c17
        have H1 : (skywaykeep1_PolygonApart.j0 k l0 a2 false t229 false a1_0 a1_1) = some r := by rw [if_neg (show ¬ (false = true) by decide)] at H; exact H
        clear H
        have H := H1
        clear H1
      case' n5_ =>
       rw [if_neg c16] at H
       have c16b0 : (t230 == 0) = false := beq_eq_false_iff_ne.mpr c16
       have c16b1 : (t230 != 0) = true := bne_iff_ne.mpr c16
       (first | rw [c16b0] | (simp only [i64_w, i32_w]; rw [c16b0]) | skip)
      all_goals
       have H' := Aside0.mk H
       clear H
       go_wp2
       go_meet
       case rel => first | (exact ⟨_, (decide (t229 ≥ 0)), (by first | rfl | (simp; done) | (simp [*]; done)), H', ⟨by first | omega | exact Nat.le_refl _⟩, ⟨by (with_reducible repeat (first | refine blk_drewN ?_ _ | refine blk_drew ?_ | refine blk_alloc ?_ _)); exact BK225.out⟩, ⟨by repeat (first | (with_reducible first | exact HB.out | apply below_alloc | apply pw_below_drewN | apply below_drew1 | refine below_set ?_ GE225.out) | exact HB.out)⟩⟩) | (exact ⟨_, (false), (by first | rfl | (simp; done) | (simp [*]; done)), H', ⟨by first | omega | exact Nat.le_refl _⟩, ⟨by (with_reducible repeat (first | refine blk_drewN ?_ _ | refine blk_drew ?_ | refine blk_alloc ?_ _)); exact BK225.out⟩, ⟨by repeat (first | (with_reducible first | exact HB.out | apply below_alloc | apply pw_below_drewN | apply below_drew1 | refine below_set ?_ GE225.out) | exact HB.out)⟩⟩) | (exact ⟨_, (true), (by first | rfl | (simp; done) | (simp [*]; done)), H', ⟨by first | omega | exact Nat.le_refl _⟩, ⟨by (with_reducible repeat (first | refine blk_drewN ?_ _ | refine blk_drew ?_ | refine blk_alloc ?_ _)); exact BK225.out⟩, ⟨by repeat (first | (with_reducible first | exact HB.out | apply below_alloc | apply pw_below_drewN | apply below_drew1 | refine below_set ?_ GE225.out) | exact HB.out)⟩⟩)
     case rest =>
      clear HC9
      (try clear c1); (try clear p1); (try clear p2); (try clear c3); (try clear c5); (try clear c7); (try clear c7b0); (try clear c7b1); (try clear c15); (try clear c16); (try clear c16b0); (try clear c16b1); (try clear c17); (try clear hczx8f911); (try clear hczx8f912); (try clear hczx41f61); (try clear hczx41f62); (try clear hfzx8f911); (try clear hfzx8f912); (try clear hfzx41f61); (try clear hfzx41f62)
      obtain ⟨kq, x42_8, rfl, HA, HJ8, BK225, HB⟩ := hcut
      cases kq with
      | zero => exact absurd HA.out (by simp [skywaykeep1_PolygonApart.j0])
      | succ kj8 =>
       have H := HA.out
       clear HA
       simp only [skywaykeep1_PolygonApart.j0] at H
       by_cases c18 : x42_8 = true
       · subst c18
         have H1 : (some false) = some r := by rw [if_pos rfl] at H; exact H
         clear H
         have H := H1
         clear H1
         obtain rfl := Option.some.inj H
         go_wp2
         go_ret
         exact ⟨by first | rfl | (simp [errW_none, errW_some] <;> rfl) | (simp [*, errW_none, errW_some] <;> rfl), by repeat (first | (with_reducible first | exact HB.out | apply below_alloc | apply pw_below_drewN | apply below_drew1 | refine below_set ?_ GE225.out) | exact HB.out)⟩
       · replace c18 := Bool.eq_false_iff.mpr c18
         subst c18
         have H1 : (skywaykeep1_PolygonApart.l0 kj8 l0 a2 t227 t229 l0 (l0.length : Int) 0 a1_0 a1_1) = some r := by rw [if_neg (show ¬ (false = true) by decide)] at H; exact H
         clear H
         have H := H1
         clear H1
         have H' := Aside0.mk H
         clear H
         go_wp2
         go_loopg [45] kj8 (fun kq v45 w' => ∃ (x45_2 : Int), v45 = .int .i64 x45_2 ∧ Aside0 (skywaykeep1_PolygonApart.l0 kq l0 a2 t227 t229 l0 (l0.length : Int) x45_2 a1_0 a1_1 = some r) ∧ Aside0 (kq ≤ kj8) ∧ Aside0 (w'.heap[gb225]? = some (.cells #[.int .i64 a1_0, .int .i64 a1_1] 25 (0, 0))) ∧ Aside0 (Below w.heap.size w w'))
         case atStart => exact ⟨(0), (by first | rfl | (simp; done) | (simp [*]; done)), H', ⟨Nat.le_refl _⟩, ⟨by (with_reducible repeat (first | refine blk_drewN ?_ _ | refine blk_drew ?_ | refine blk_alloc ?_ _)); exact BK225.out⟩, ⟨by repeat (first | (with_reducible first | exact HB.out | apply below_alloc | apply pw_below_drewN | apply below_drew1 | refine below_set ?_ GE225.out) | exact HB.out)⟩⟩
         case round =>
          clear H'
          (try clear c1); (try clear p1); (try clear p2); (try clear c3); (try clear c5); (try clear c7); (try clear c7b0); (try clear c7b1); (try clear c15); (try clear c16); (try clear c16b0); (try clear c16b1); (try clear c17); (try clear c18); (try clear hczx8f911); (try clear hczx8f912); (try clear hczx41f61); (try clear hczx41f62); (try clear hfzx8f911); (try clear hfzx8f912); (try clear hfzx41f61); (try clear hfzx41f62); (try clear p1); (try clear p2)
          obtain ⟨x45_2, rfl, HA, HK2, BK225, HB⟩ := hrel
          cases gk with
          | zero => exact absurd HA.out (by simp [skywaykeep1_PolygonApart.l0])
          | succ k2 =>
           have H := HA.out
           clear HA
           simp only [skywaykeep1_PolygonApart.l0] at H
           refine Or.elim (Classical.em (x45_2 < (l0.length : Int))) (fun c19 => ?p8_) (fun c19 => ?n8_)
           case' p8_ =>
            rw [if_pos c19] at H
            have c19b0 : decide (x45_2 < (l0.length : Int)) = true := decide_eq_true c19
            clear c19
            refine Or.elim (Classical.em (0 ≤ x45_2)) (fun c20 => ?p9_) (fun c20 => ?n9_)
            case' p9_ =>
             rw [if_pos c20] at H
             have c20b0 : decide (0 ≤ x45_2) = true := decide_eq_true c20
             clear c20
             refine Or.elim (Classical.em (x45_2 < (l0.length : Int))) (fun c21 => ?p10_) (fun c21 => ?n10_)
             case' p10_ =>
              rw [if_pos c21] at H
              have c21b0 : decide (x45_2 < (l0.length : Int)) = true := decide_eq_true c21
              clear c21
              refine Or.elim (Classical.em (t227 = true)) (fun c22 => ?p11_) (fun c22 => ?n11_)
              case' p11_ =>
               subst c22
               have H1 : ((plane_Within.f ((rd_T25 l0 x45_2).f0) ((rd_T25 l0 x45_2).f1) a1_0 a1_1 a2).bind fun t233 => (if t233 = true then (some false) else (skywaykeep1_PolygonApart.l0 k2 l0 a2 true t229 l0 (l0.length : Int) (wrap64 (x45_2 + 1)) a1_0 a1_1))) = some r := by rw [if_pos rfl] at H; exact H
               clear H
               have H := H1
               clear H1
               replace H := Option.bind_eq_some_iff.mp H
               obtain ⟨t233, A230, H⟩ := H
               replace H : (if t233 = true then (some false) else (skywaykeep1_PolygonApart.l0 k2 l0 a2 true t229 l0 (l0.length : Int) (wrap64 (x45_2 + 1)) a1_0 a1_1)) = some r := H
               have A23 := Aside0.mk A230
               clear A230
               refine Or.elim (Classical.em (t233 = true)) (fun c24 => ?p12_) (fun c24 => ?n12_)
               case' p12_ =>
                subst c24
                have H1 : (some false) = some r := by rw [if_pos rfl] at H; exact H
                clear H
                have H := H1
                clear H1
                have hm7_0 := Aside0.mk trivial
               case' n12_ =>
                replace c24 := Bool.eq_false_iff.mpr c24
                subst c24
                have H1 : (skywaykeep1_PolygonApart.l0 k2 l0 a2 true t229 l0 (l0.length : Int) (wrap64 (x45_2 + 1)) a1_0 a1_1) = some r := by rw [if_neg (show ¬ (false = true) by decide)] at H; exact H
                clear H
                have H := H1
                clear H1
                have hm7_1 := Aside0.mk trivial
              case' n11_ =>
               replace c22 := Bool.eq_false_iff.mpr c22
               subst c22
               have H1 : (skywaykeep1_PolygonApart.l0 k2 l0 a2 false t229 l0 (l0.length : Int) (wrap64 (x45_2 + 1)) a1_0 a1_1) = some r := by rw [if_neg (show ¬ (false = true) by decide)] at H; exact H
               clear H
               have H := H1
               clear H1
               have hm7_1 := Aside0.mk trivial
             case' n10_ =>
              rw [if_neg c21] at H
              exact absurd H (by simp)
            case' n9_ =>
             rw [if_neg c20] at H
             exact absurd H (by simp)
           case' n8_ =>
            rw [if_neg c19] at H
            have c19b0 : decide (x45_2 < (l0.length : Int)) = false := decide_eq_false c19
            clear c19
            replace H := Option.bind_eq_some_iff.mp H
            obtain ⟨⟨t234, t235⟩, A380, H⟩ := H
            replace H : (if t235 = 0 then (if t227 = true then (if t234 = true then (some true) else (some false)) else (if a2 > 0 then (some true) else (some (decide (t229 ≥ 0))))) else (some false)) = some r := H
            have A38 := Aside0.mk A380
            clear A380
            refine Or.elim (Classical.em (t235 = 0)) (fun c39 => ?p13_) (fun c39 => ?n13_)
            case' p13_ =>
             rw [if_pos c39] at H
             have c39b0 : (t235 == 0) = true := beq_iff_eq.mpr c39
             have c39b1 : (t235 != 0) = false := bne_eq_false_iff_eq.mpr c39
             clear c39
             refine Or.elim (Classical.em (t227 = true)) (fun c40 => ?p14_) (fun c40 => ?n14_)
             case' p14_ =>
              subst c40
              have H1 : (if t234 = true then (some true) else (some false)) = some r := by rw [if_pos rfl] at H; exact H
              clear H
              have H := H1
              clear H1
              refine Or.elim (Classical.em (t234 = true)) (fun c41 => ?p15_) (fun c41 => ?n15_)
              case' p15_ =>
               subst c41
               have H1 : (some true) = some r := by rw [if_pos rfl] at H; exact H
               clear H
               have H := H1
               clear H1
               have hm7_2 := Aside0.mk trivial
              case' n15_ =>
               replace c41 := Bool.eq_false_iff.mpr c41
               subst c41
               have H1 : (some false) = some r := by rw [if_neg (show ¬ (false = true) by decide)] at H; exact H
               clear H
               have H := H1
               clear H1
               have hm7_2 := Aside0.mk trivial
             case' n14_ =>
              replace c40 := Bool.eq_false_iff.mpr c40
              subst c40
              have H1 : (if a2 > 0 then (some true) else (some (decide (t229 ≥ 0)))) = some r := by rw [if_neg (show ¬ (false = true) by decide)] at H; exact H
              clear H
              have H := H1
              clear H1
              refine Or.elim (Classical.em (a2 > 0)) (fun c46 => ?p16_) (fun c46 => ?n16_)
              case' p16_ =>
               rw [if_pos c46] at H
               have c46b0 : decide (0 < a2) = true := decide_eq_true c46
               clear c46
               have hm7_2 := Aside0.mk trivial
              case' n16_ =>
               rw [if_neg c46] at H
               have c46b0 : decide (0 < a2) = false := decide_eq_false c46
               clear c46
               have hm7_2 := Aside0.mk trivial
            case' n13_ =>
             rw [if_neg c39] at H
             have c39b0 : (t235 == 0) = false := beq_eq_false_iff_ne.mpr c39
             have c39b1 : (t235 != 0) = true := bne_iff_ne.mpr c39
             have hm7_2 := Aside0.mk trivial
           all_goals
            first
             | (first | (have _hm := hm7_0) | (have _hm := hm7_2))
               obtain rfl := Option.some.inj H
               first
                | clear hm7_0
                  have p231 : 0 ≤ (x45_2 : Int) := of_decide_eq_true (by first | (with_reducible assumption) | assumption)
                  have q231 : x45_2 < (l0.length : Int) := of_decide_eq_true (by first | (with_reducible assumption) | assumption)
                  obtain ⟨ad231, e231, hx231_0, hx231_1⟩ := at_T25 HR0.out x45_2 p231 q231
                  cases e231
                  replace hx231_0 := (HB.out.cell (World.block_lt_of_cell? w _ hx231_0)).trans hx231_0
                  replace hx231_1 := (HB.out.cell (World.block_lt_of_cell? w _ hx231_1)).trans hx231_1
                  replace p231 := eq_true p231
                  replace q231 := eq_true q231
                  go_wp2_with (first | ((with_reducible refine gate_dst (N := 12) rfl ?_); refine box_event ?hg (N := 12) ?hd (cs := #[.int .i64 0, .int .i64 0]) (t := 25) ?hr ?_; (case hd => rfl); (case hg => rfl); (case hr => first | (go_simp; done) | (go_simp; rfl)); intro gb232 hg wxfae31 hbox hb; have n0_ := Aside0.mk (blk_below (g := gb225) (o := .cells #[.int .i64 a1_0, .int .i64 a1_1] 25 (0, 0)) (by (with_reducible repeat (first | refine blk_drewN ?_ _ | refine blk_drew ?_ | refine blk_alloc ?_ _)); exact BK225.out) hb); have n1_ := Aside0.mk (below_step (by repeat (first | (with_reducible first | exact HB.out | apply below_alloc | apply pw_below_drewN | apply below_drew1 | refine below_set ?_ GE225.out) | exact HB.out)) hb); have n2_ := Aside0.mk (hbox); have n3_ := Aside0.mk ((by rw [hg]; exact (below_size (by repeat (first | (with_reducible first | exact HB.out | apply below_alloc | apply pw_below_drewN | apply below_drew1 | refine below_set ?_ GE225.out) | exact HB.out))) : w.heap.size ≤ gb232)); have n4_ := Aside0.mk ((by rw [hg]; exact (below_size (by repeat (first | (with_reducible first | exact HB.out | apply below_alloc | apply pw_below_drewN | apply below_drew1 | refine below_set ?_ GE225.out) | exact HB.out))) : w.heap.size ≤ gb232)); have n5_ := Aside0.mk ((by rw [hg]; exact Nat.ne_of_lt (blk_lt (g := gb225) (o := .cells #[.int .i64 a1_0, .int .i64 a1_1] 25 (0, 0)) (by (with_reducible repeat (first | refine blk_drewN ?_ _ | refine blk_drew ?_ | refine blk_alloc ?_ _)); exact BK225.out)) : gb225 ≠ gb232)); have n6_ := Aside0.mk ((by rw [hg]; exact Nat.ne_of_gt (blk_lt (g := gb225) (o := .cells #[.int .i64 a1_0, .int .i64 a1_1] 25 (0, 0)) (by (with_reducible repeat (first | refine blk_drewN ?_ _ | refine blk_drew ?_ | refine blk_alloc ?_ _)); exact BK225.out)) : gb232 ≠ gb225)); clear BK225; clear HB; have BK225 := n0_; have HB := n1_; have BK232 := n2_; have GW232 := n3_; have GE232 := n4_; have NB225_232 := n5_; have NB232_225 := n6_; clear n0_ n1_ n2_ n3_ n4_ n5_ n6_; clear hb hbox hg; have hnbxfae31 := NB232_225.out; have hncxfae31 := NB225_232.out; have hczxfae31 : wxfae31.cell? ⟨gb232, 0, none⟩ = some (.int .i64 0) := (blk_cell BK232.out 0).trans rfl; have hczxfae32 : wxfae31.cell? ⟨gb232, 1, none⟩ = some (.int .i64 0) := (blk_cell BK232.out 1).trans rfl; have hfzxfae31 := blk_frozen BK232.out 0; have hfzxfae32 := blk_frozen BK232.out 1; have hczxfae33 : wxfae31.cell? ⟨gb225, 0, none⟩ = some (.int .i64 a1_0) := (blk_cell BK225.out 0).trans rfl; have hczxfae34 : wxfae31.cell? ⟨gb225, 1, none⟩ = some (.int .i64 a1_1) := (blk_cell BK225.out 1).trans rfl; have hfzxfae33 := blk_frozen BK225.out 0; have hfzxfae34 := blk_frozen BK225.out 1) | (go_at_call 18; (with_reducible refine (plane_Within.calls ((rd_T25 l0 x45_2).f0) ((rd_T25 l0 x45_2).f1) a1_0 a1_1 a2 true _ A23.out).mono ?_); rintro e wx6c091 ⟨rfl, hb⟩; have n0_ := Aside0.mk (blk_below (g := gb225) (o := .cells #[.int .i64 a1_0, .int .i64 a1_1] 25 (0, 0)) (by (with_reducible repeat (first | refine blk_drewN ?_ _ | refine blk_drew ?_ | refine blk_alloc ?_ _)); refine blk_far ?_ NB225_232.out _; (with_reducible repeat (first | refine blk_drewN ?_ _ | refine blk_drew ?_ | refine blk_alloc ?_ _)); refine blk_far ?_ NB225_232.out _; (with_reducible repeat (first | refine blk_drewN ?_ _ | refine blk_drew ?_ | refine blk_alloc ?_ _)); exact BK225.out) hb); have n1_ := Aside0.mk (blk_below (g := gb232) (o := .cells #[.int .i64 ((rd_T25 l0 x45_2).f0), .int .i64 ((rd_T25 l0 x45_2).f1)] 25 (0, 0)) (by (with_reducible repeat (first | refine blk_drewN ?_ _ | refine blk_drew ?_ | refine blk_alloc ?_ _)); refine blk_put (cs := #[.int .i64 ((rd_T25 l0 x45_2).f0), .int .i64 0]) ?_ 1 _ rfl; (with_reducible repeat (first | refine blk_drewN ?_ _ | refine blk_drew ?_ | refine blk_alloc ?_ _)); refine blk_put (cs := #[.int .i64 0, .int .i64 0]) ?_ 0 _ rfl; (with_reducible repeat (first | refine blk_drewN ?_ _ | refine blk_drew ?_ | refine blk_alloc ?_ _)); exact BK232.out) hb); have n2_ := Aside0.mk (below_step (by repeat (first | (with_reducible first | exact HB.out | apply below_alloc | apply pw_below_drewN | apply below_drew1 | refine below_set ?_ GE225.out | refine below_set ?_ GE232.out) | exact HB.out)) hb); clear BK225; clear BK232; clear HB; have BK225 := n0_; have BK232 := n1_; have HB := n2_; clear n0_ n1_ n2_; (try clear hb); (try clear hb2); (try clear hk); (try clear hi)))
                  go_ret
                  exact ⟨by first | rfl | (simp [errW_none, errW_some] <;> rfl) | (simp [*, errW_none, errW_some] <;> rfl), by repeat (first | (with_reducible first | exact HB.out | apply below_alloc | apply pw_below_drewN | apply below_drew1 | refine below_set ?_ GE225.out | refine below_set ?_ GE232.out) | exact HB.out)⟩
                | clear hm7_2
                  have hczze1 : wr.cell? ⟨gb225, 0, none⟩ = some (.int .i64 a1_0) := (blk_cell BK225.out 0).trans rfl
                  have hczze2 : wr.cell? ⟨gb225, 1, none⟩ = some (.int .i64 a1_1) := (blk_cell BK225.out 1).trans rfl
                  have hfzze1 := blk_frozen BK225.out 0
                  have hfzze2 := blk_frozen BK225.out 1
                  go_wp2_with (first | ((with_reducible refine gate_callee (f := 16) rfl ?_); refine goesL_ (some 62) rfl rfl Try.func16 (by kernel_rfl) rfl #[.slice A0 l0.length c0, .agg #[.int .i64 a1_0, .int .i64 a1_1], .int .i64 (wrap64 (Int.tdiv a2 2))] rfl (by (try simp only [List.map_toArray, List.map_cons, List.map_nil]); first | done | rfl | (simp only [List.length_drop, List.length_take]; rfl)) ?_; (with_reducible refine (polygon_Apart.calls k2 _ _ l0 a1_0 a1_1 (wrap64 (Int.tdiv a2 2)) false t235 _ ?side1 ?side2 A38.out).mono ?_); (case side1 => repeat (first | exact (Kd.C_below HR0.out HB.out) | (with_reducible refine Kd.C_alloc ?_ _) | (with_reducible refine Kd.C_drewN ?_ _) | (with_reducible refine Kd.C_drew ?_))); (case side2 => exact HC0.out); rintro e wx63051 ⟨rfl, hb⟩; refine ⟨_, rfl, ?_⟩; have n0_ := Aside0.mk (blk_below (g := gb225) (o := .cells #[.int .i64 a1_0, .int .i64 a1_1] 25 (0, 0)) (by (with_reducible repeat (first | refine blk_drewN ?_ _ | refine blk_drew ?_ | refine blk_alloc ?_ _)); exact BK225.out) hb); have n1_ := Aside0.mk (below_step (by repeat (first | (with_reducible first | exact HB.out | apply below_alloc | apply pw_below_drewN | apply below_drew1 | refine below_set ?_ GE225.out) | exact HB.out)) hb); clear BK225; clear HB; have BK225 := n0_; have HB := n1_; clear n0_ n1_; (try clear hb); (try clear hb2); (try clear hk); (try clear hi)) | ((with_reducible refine gate_callee (f := 16) rfl ?_); refine goesL_ (some 62) rfl rfl Try.func16 (by kernel_rfl) rfl #[.slice A0 l0.length c0, .agg #[.int .i64 a1_0, .int .i64 a1_1], .int .i64 (wrap64 (Int.tdiv a2 2))] rfl (by (try simp only [List.map_toArray, List.map_cons, List.map_nil]); first | done | rfl | (simp only [List.length_drop, List.length_take]; rfl)) ?_; (with_reducible refine (polygon_Apart.calls k2 _ _ l0 a1_0 a1_1 (wrap64 (Int.tdiv a2 2)) true t235 _ ?side1 ?side2 A38.out).mono ?_); (case side1 => repeat (first | exact (Kd.C_below HR0.out HB.out) | (with_reducible refine Kd.C_alloc ?_ _) | (with_reducible refine Kd.C_drewN ?_ _) | (with_reducible refine Kd.C_drew ?_))); (case side2 => exact HC0.out); rintro e wx1ebb1 ⟨rfl, hb⟩; refine ⟨_, rfl, ?_⟩; have n0_ := Aside0.mk (blk_below (g := gb225) (o := .cells #[.int .i64 a1_0, .int .i64 a1_1] 25 (0, 0)) (by (with_reducible repeat (first | refine blk_drewN ?_ _ | refine blk_drew ?_ | refine blk_alloc ?_ _)); exact BK225.out) hb); have n1_ := Aside0.mk (below_step (by repeat (first | (with_reducible first | exact HB.out | apply below_alloc | apply pw_below_drewN | apply below_drew1 | refine below_set ?_ GE225.out) | exact HB.out)) hb); clear BK225; clear HB; have BK225 := n0_; have HB := n1_; clear n0_ n1_; (try clear hb); (try clear hb2); (try clear hk); (try clear hi)) | ((with_reducible refine gate_callee (f := 16) rfl ?_); refine goesL_ (some 62) rfl rfl Try.func16 (by kernel_rfl) rfl #[.slice A0 l0.length c0, .agg #[.int .i64 a1_0, .int .i64 a1_1], .int .i64 (wrap64 (Int.tdiv a2 2))] rfl (by (try simp only [List.map_toArray, List.map_cons, List.map_nil]); first | done | rfl | (simp only [List.length_drop, List.length_take]; rfl)) ?_; (with_reducible refine (polygon_Apart.calls k2 _ _ l0 a1_0 a1_1 (wrap64 (Int.tdiv a2 2)) t234 t235 _ ?side1 ?side2 A38.out).mono ?_); (case side1 => repeat (first | exact (Kd.C_below HR0.out HB.out) | (with_reducible refine Kd.C_alloc ?_ _) | (with_reducible refine Kd.C_drewN ?_ _) | (with_reducible refine Kd.C_drew ?_))); (case side2 => exact HC0.out); rintro e wx8f171 ⟨rfl, hb⟩; refine ⟨_, rfl, ?_⟩; have n0_ := Aside0.mk (blk_below (g := gb225) (o := .cells #[.int .i64 a1_0, .int .i64 a1_1] 25 (0, 0)) (by (with_reducible repeat (first | refine blk_drewN ?_ _ | refine blk_drew ?_ | refine blk_alloc ?_ _)); exact BK225.out) hb); have n1_ := Aside0.mk (below_step (by repeat (first | (with_reducible first | exact HB.out | apply below_alloc | apply pw_below_drewN | apply below_drew1 | refine below_set ?_ GE225.out) | exact HB.out)) hb); clear BK225; clear HB; have BK225 := n0_; have HB := n1_; clear n0_ n1_; (try clear hb); (try clear hb2); (try clear hk); (try clear hi)))
                  go_ret
                  exact ⟨by first | rfl | (simp [errW_none, errW_some] <;> rfl) | (simp [*, errW_none, errW_some] <;> rfl), by repeat (first | (with_reducible first | exact HB.out | apply below_alloc | apply pw_below_drewN | apply below_drew1 | refine below_set ?_ GE225.out) | exact HB.out)⟩
             | clear hm7_1
               have H' := Aside0.mk H
               clear H
               have p231 : 0 ≤ (x45_2 : Int) := of_decide_eq_true (by first | (with_reducible assumption) | assumption)
               have q231 : x45_2 < (l0.length : Int) := of_decide_eq_true (by first | (with_reducible assumption) | assumption)
               obtain ⟨ad231, e231, hx231_0, hx231_1⟩ := at_T25 HR0.out x45_2 p231 q231
               cases e231
               replace hx231_0 := (HB.out.cell (World.block_lt_of_cell? w _ hx231_0)).trans hx231_0
               replace hx231_1 := (HB.out.cell (World.block_lt_of_cell? w _ hx231_1)).trans hx231_1
               replace p231 := eq_true p231
               replace q231 := eq_true q231
               go_wp2_with (first | ((with_reducible refine gate_dst (N := 12) rfl ?_); refine box_event ?hg (N := 12) ?hd (cs := #[.int .i64 0, .int .i64 0]) (t := 25) ?hr ?_; (case hd => rfl); (case hg => rfl); (case hr => first | (go_simp; done) | (go_simp; rfl)); intro gb232 hg wxfae31 hbox hb; have n0_ := Aside0.mk (blk_below (g := gb225) (o := .cells #[.int .i64 a1_0, .int .i64 a1_1] 25 (0, 0)) (by (with_reducible repeat (first | refine blk_drewN ?_ _ | refine blk_drew ?_ | refine blk_alloc ?_ _)); exact BK225.out) hb); have n1_ := Aside0.mk (below_step (by repeat (first | (with_reducible first | exact HB.out | apply below_alloc | apply pw_below_drewN | apply below_drew1 | refine below_set ?_ GE225.out) | exact HB.out)) hb); have n2_ := Aside0.mk (hbox); have n3_ := Aside0.mk ((by rw [hg]; exact (below_size (by repeat (first | (with_reducible first | exact HB.out | apply below_alloc | apply pw_below_drewN | apply below_drew1 | refine below_set ?_ GE225.out) | exact HB.out))) : w.heap.size ≤ gb232)); have n4_ := Aside0.mk ((by rw [hg]; exact (below_size (by repeat (first | (with_reducible first | exact HB.out | apply below_alloc | apply pw_below_drewN | apply below_drew1 | refine below_set ?_ GE225.out) | exact HB.out))) : w.heap.size ≤ gb232)); have n5_ := Aside0.mk ((by rw [hg]; exact Nat.ne_of_lt (blk_lt (g := gb225) (o := .cells #[.int .i64 a1_0, .int .i64 a1_1] 25 (0, 0)) (by (with_reducible repeat (first | refine blk_drewN ?_ _ | refine blk_drew ?_ | refine blk_alloc ?_ _)); exact BK225.out)) : gb225 ≠ gb232)); have n6_ := Aside0.mk ((by rw [hg]; exact Nat.ne_of_gt (blk_lt (g := gb225) (o := .cells #[.int .i64 a1_0, .int .i64 a1_1] 25 (0, 0)) (by (with_reducible repeat (first | refine blk_drewN ?_ _ | refine blk_drew ?_ | refine blk_alloc ?_ _)); exact BK225.out)) : gb232 ≠ gb225)); clear BK225; clear HB; have BK225 := n0_; have HB := n1_; have BK232 := n2_; have GW232 := n3_; have GE232 := n4_; have NB225_232 := n5_; have NB232_225 := n6_; clear n0_ n1_ n2_ n3_ n4_ n5_ n6_; clear hb hbox hg; have hnbxfae31 := NB232_225.out; have hncxfae31 := NB225_232.out; have hczxfae31 : wxfae31.cell? ⟨gb232, 0, none⟩ = some (.int .i64 0) := (blk_cell BK232.out 0).trans rfl; have hczxfae32 : wxfae31.cell? ⟨gb232, 1, none⟩ = some (.int .i64 0) := (blk_cell BK232.out 1).trans rfl; have hfzxfae31 := blk_frozen BK232.out 0; have hfzxfae32 := blk_frozen BK232.out 1; have hczxfae33 : wxfae31.cell? ⟨gb225, 0, none⟩ = some (.int .i64 a1_0) := (blk_cell BK225.out 0).trans rfl; have hczxfae34 : wxfae31.cell? ⟨gb225, 1, none⟩ = some (.int .i64 a1_1) := (blk_cell BK225.out 1).trans rfl; have hfzxfae33 := blk_frozen BK225.out 0; have hfzxfae34 := blk_frozen BK225.out 1) | ((with_reducible refine gate_dst (N := 12) rfl ?_); refine box_event ?hg (N := 12) ?hd (cs := #[.int .i64 0, .int .i64 0]) (t := 25) ?hr ?_; (case hd => rfl); (case hg => rfl); (case hr => first | (go_simp; done) | (go_simp; rfl)); intro gb232 hg wxa2231 hbox hb; have n0_ := Aside0.mk (blk_below (g := gb225) (o := .cells #[.int .i64 a1_0, .int .i64 a1_1] 25 (0, 0)) (by (with_reducible repeat (first | refine blk_drewN ?_ _ | refine blk_drew ?_ | refine blk_alloc ?_ _)); exact BK225.out) hb); have n1_ := Aside0.mk (below_step (by repeat (first | (with_reducible first | exact HB.out | apply below_alloc | apply pw_below_drewN | apply below_drew1 | refine below_set ?_ GE225.out) | exact HB.out)) hb); have n2_ := Aside0.mk (hbox); have n3_ := Aside0.mk ((by rw [hg]; exact (below_size (by repeat (first | (with_reducible first | exact HB.out | apply below_alloc | apply pw_below_drewN | apply below_drew1 | refine below_set ?_ GE225.out) | exact HB.out))) : w.heap.size ≤ gb232)); have n4_ := Aside0.mk ((by rw [hg]; exact (below_size (by repeat (first | (with_reducible first | exact HB.out | apply below_alloc | apply pw_below_drewN | apply below_drew1 | refine below_set ?_ GE225.out) | exact HB.out))) : w.heap.size ≤ gb232)); have n5_ := Aside0.mk ((by rw [hg]; exact Nat.ne_of_lt (blk_lt (g := gb225) (o := .cells #[.int .i64 a1_0, .int .i64 a1_1] 25 (0, 0)) (by (with_reducible repeat (first | refine blk_drewN ?_ _ | refine blk_drew ?_ | refine blk_alloc ?_ _)); exact BK225.out)) : gb225 ≠ gb232)); have n6_ := Aside0.mk ((by rw [hg]; exact Nat.ne_of_gt (blk_lt (g := gb225) (o := .cells #[.int .i64 a1_0, .int .i64 a1_1] 25 (0, 0)) (by (with_reducible repeat (first | refine blk_drewN ?_ _ | refine blk_drew ?_ | refine blk_alloc ?_ _)); exact BK225.out)) : gb232 ≠ gb225)); clear BK225; clear HB; have BK225 := n0_; have HB := n1_; have BK232 := n2_; have GW232 := n3_; have GE232 := n4_; have NB225_232 := n5_; have NB232_225 := n6_; clear n0_ n1_ n2_ n3_ n4_ n5_ n6_; clear hb hbox hg; have hnbxa2231 := NB232_225.out; have hncxa2231 := NB225_232.out; have hczxa2231 : wxa2231.cell? ⟨gb232, 0, none⟩ = some (.int .i64 0) := (blk_cell BK232.out 0).trans rfl; have hczxa2232 : wxa2231.cell? ⟨gb232, 1, none⟩ = some (.int .i64 0) := (blk_cell BK232.out 1).trans rfl; have hfzxa2231 := blk_frozen BK232.out 0; have hfzxa2232 := blk_frozen BK232.out 1) | (go_at_call 18; (with_reducible refine (plane_Within.calls ((rd_T25 l0 x45_2).f0) ((rd_T25 l0 x45_2).f1) a1_0 a1_1 a2 false _ A23.out).mono ?_); rintro e wx69a11 ⟨rfl, hb⟩; have n0_ := Aside0.mk (blk_below (g := gb225) (o := .cells #[.int .i64 a1_0, .int .i64 a1_1] 25 (0, 0)) (by (with_reducible repeat (first | refine blk_drewN ?_ _ | refine blk_drew ?_ | refine blk_alloc ?_ _)); refine blk_far ?_ NB225_232.out _; (with_reducible repeat (first | refine blk_drewN ?_ _ | refine blk_drew ?_ | refine blk_alloc ?_ _)); refine blk_far ?_ NB225_232.out _; (with_reducible repeat (first | refine blk_drewN ?_ _ | refine blk_drew ?_ | refine blk_alloc ?_ _)); exact BK225.out) hb); have n1_ := Aside0.mk (blk_below (g := gb232) (o := .cells #[.int .i64 ((rd_T25 l0 x45_2).f0), .int .i64 ((rd_T25 l0 x45_2).f1)] 25 (0, 0)) (by (with_reducible repeat (first | refine blk_drewN ?_ _ | refine blk_drew ?_ | refine blk_alloc ?_ _)); refine blk_put (cs := #[.int .i64 ((rd_T25 l0 x45_2).f0), .int .i64 0]) ?_ 1 _ rfl; (with_reducible repeat (first | refine blk_drewN ?_ _ | refine blk_drew ?_ | refine blk_alloc ?_ _)); refine blk_put (cs := #[.int .i64 0, .int .i64 0]) ?_ 0 _ rfl; (with_reducible repeat (first | refine blk_drewN ?_ _ | refine blk_drew ?_ | refine blk_alloc ?_ _)); exact BK232.out) hb); have n2_ := Aside0.mk (below_step (by repeat (first | (with_reducible first | exact HB.out | apply below_alloc | apply pw_below_drewN | apply below_drew1 | refine below_set ?_ GE225.out | refine below_set ?_ GE232.out) | exact HB.out)) hb); clear BK225; clear BK232; clear HB; have BK225 := n0_; have BK232 := n1_; have HB := n2_; clear n0_ n1_ n2_; (try clear hb); (try clear hb2); (try clear hk); (try clear hi)))
               go_roundg k2
               case measure => have := HJ8.out; have := HK2.out; omega
               case rel => first | (exact ⟨(wrap64 (x45_2 + 1)), (by first | rfl | (simp; done) | (simp [*]; done)), H', ⟨by have := HJ8.out; have := HK2.out; omega⟩, ⟨by (with_reducible repeat (first | refine blk_drewN ?_ _ | refine blk_drew ?_ | refine blk_alloc ?_ _)); exact BK225.out⟩, ⟨by repeat (first | (with_reducible first | exact HB.out | apply below_alloc | apply pw_below_drewN | apply below_drew1 | refine below_set ?_ GE225.out | refine below_set ?_ GE232.out) | exact HB.out)⟩⟩) | (exact ⟨(wrap64 (x45_2 + 1)), (by first | rfl | (simp; done) | (simp [*]; done)), H', ⟨by have := HJ8.out; have := HK2.out; omega⟩, ⟨by (with_reducible repeat (first | refine blk_drewN ?_ _ | refine blk_drew ?_ | refine blk_alloc ?_ _)); refine blk_far ?_ NB225_232.out _; (with_reducible repeat (first | refine blk_drewN ?_ _ | refine blk_drew ?_ | refine blk_alloc ?_ _)); refine blk_far ?_ NB225_232.out _; (with_reducible repeat (first | refine blk_drewN ?_ _ | refine blk_drew ?_ | refine blk_alloc ?_ _)); exact BK225.out⟩, ⟨by repeat (first | (with_reducible first | exact HB.out | apply below_alloc | apply pw_below_drewN | apply below_drew1 | refine below_set ?_ GE225.out | refine below_set ?_ GE232.out) | exact HB.out)⟩⟩)
   | clear hm1_1
     obtain rfl := Option.some.inj H
     go_enter Try.func3, Try.ntmps3
     go_wp2_with (first | ((with_reducible refine gate_dst (N := 4) rfl ?_); refine box_event ?hg (N := 4) ?hd (cs := #[.int .i64 a1_0, .int .i64 a1_1]) (t := 25) ?hr ?_; (case hd => rfl); (case hg => rfl); (case hr => first | (go_simp; done) | (go_simp; rfl)); intro gb225 hg wx96341 hbox hb; have n0_ := Aside0.mk (below_step (by repeat (first | (with_reducible first | exact HB.out | apply below_alloc | apply pw_below_drewN | apply below_drew1) | exact HB.out)) hb); have n1_ := Aside0.mk (hbox); have n2_ := Aside0.mk ((by rw [hg]; exact (below_size (by repeat (first | (with_reducible first | exact HB.out | apply below_alloc | apply pw_below_drewN | apply below_drew1) | exact HB.out))) : w.heap.size ≤ gb225)); have n3_ := Aside0.mk ((by rw [hg]; exact (below_size (by repeat (first | (with_reducible first | exact HB.out | apply below_alloc | apply pw_below_drewN | apply below_drew1) | exact HB.out))) : w.heap.size ≤ gb225)); clear HB; have HB := n0_; have BK225 := n1_; have GW225 := n2_; have GE225 := n3_; clear n0_ n1_ n2_ n3_; clear hb hbox hg) | ((with_reducible refine gate_callee (f := 15) rfl ?_); refine goesL_ (some 15) rfl rfl Try.func15 (by kernel_rfl) rfl #[] rfl (by (try simp only [List.map_toArray, List.map_cons, List.map_nil]); first | done | rfl | (simp only [List.length_drop, List.length_take]; rfl)) ?_; (with_reducible refine (skywaykeep1_polygonWorks.calls k  true _ A4.out).mono ?_); rintro e wx8f911 ⟨rfl, hb⟩; refine ⟨_, rfl, ?_⟩; have n0_ := Aside0.mk (blk_below (g := gb225) (o := .cells #[.int .i64 a1_0, .int .i64 a1_1] 25 (0, 0)) (by (with_reducible repeat (first | refine blk_drewN ?_ _ | refine blk_drew ?_ | refine blk_alloc ?_ _)); exact BK225.out) hb); have n1_ := Aside0.mk (below_step (by repeat (first | (with_reducible first | exact HB.out | apply below_alloc | apply pw_below_drewN | apply below_drew1 | refine below_set ?_ GE225.out) | exact HB.out)) hb); clear BK225; clear HB; have BK225 := n0_; have HB := n1_; clear n0_ n1_; (try clear hb); (try clear hb2); (try clear hk); (try clear hi); have hczx8f911 : wx8f911.cell? ⟨gb225, 0, none⟩ = some (.int .i64 a1_0) := (blk_cell BK225.out 0).trans rfl; have hczx8f912 : wx8f911.cell? ⟨gb225, 1, none⟩ = some (.int .i64 a1_1) := (blk_cell BK225.out 1).trans rfl; have hfzx8f911 := blk_frozen BK225.out 0; have hfzx8f912 := blk_frozen BK225.out 1) | ((with_reducible refine gate_callee (f := 15) rfl ?_); refine goesL_ (some 15) rfl rfl Try.func15 (by kernel_rfl) rfl #[] rfl (by (try simp only [List.map_toArray, List.map_cons, List.map_nil]); first | done | rfl | (simp only [List.length_drop, List.length_take]; rfl)) ?_; (with_reducible refine (skywaykeep1_polygonWorks.calls k  false _ A4.out).mono ?_); rintro e wx45761 ⟨rfl, hb⟩; refine ⟨_, rfl, ?_⟩; have n0_ := Aside0.mk (blk_below (g := gb225) (o := .cells #[.int .i64 a1_0, .int .i64 a1_1] 25 (0, 0)) (by (with_reducible repeat (first | refine blk_drewN ?_ _ | refine blk_drew ?_ | refine blk_alloc ?_ _)); exact BK225.out) hb); have n1_ := Aside0.mk (below_step (by repeat (first | (with_reducible first | exact HB.out | apply below_alloc | apply pw_below_drewN | apply below_drew1 | refine below_set ?_ GE225.out) | exact HB.out)) hb); clear BK225; clear HB; have BK225 := n0_; have HB := n1_; clear n0_ n1_; (try clear hb); (try clear hb2); (try clear hk); (try clear hi)) | ((with_reducible refine gate_callee (f := 16) rfl ?_); refine goesL_ (some 21) rfl rfl Try.func16 (by kernel_rfl) rfl #[.slice A0 l0.length c0, .agg #[.int .i64 a1_0, .int .i64 a1_1], .int .i64 a2] rfl (by (try simp only [List.map_toArray, List.map_cons, List.map_nil]); first | done | rfl | (simp only [List.length_drop, List.length_take]; rfl)) ?_; (with_reducible refine (polygon_Apart.calls k _ _ l0 a1_0 a1_1 a2 t227 t228 _ ?side1 ?side2 A6.out).mono ?_); (case side1 => repeat (first | exact (Kd.C_below HR0.out HB.out) | (with_reducible refine Kd.C_alloc ?_ _) | (with_reducible refine Kd.C_drewN ?_ _) | (with_reducible refine Kd.C_drew ?_))); (case side2 => exact HC0.out); rintro e wxc1ce1 ⟨rfl, hb⟩; refine ⟨_, rfl, ?_⟩; have n0_ := Aside0.mk (blk_below (g := gb225) (o := .cells #[.int .i64 a1_0, .int .i64 a1_1] 25 (0, 0)) (by (with_reducible repeat (first | refine blk_drewN ?_ _ | refine blk_drew ?_ | refine blk_alloc ?_ _)); exact BK225.out) hb); have n1_ := Aside0.mk (below_step (by repeat (first | (with_reducible first | exact HB.out | apply below_alloc | apply pw_below_drewN | apply below_drew1 | refine below_set ?_ GE225.out) | exact HB.out)) hb); clear BK225; clear HB; have BK225 := n0_; have HB := n1_; clear n0_ n1_; (try clear hb); (try clear hb2); (try clear hk); (try clear hi)))
     go_ret
     exact ⟨by first | rfl | (simp [errW_none, errW_some] <;> rfl) | (simp [*, errW_none, errW_some] <;> rfl), by repeat (first | (with_reducible first | exact HB.out | apply below_alloc | apply pw_below_drewN | apply below_drew1 | refine below_set ?_ GE225.out) | exact HB.out)⟩

/-- What is told of a value of struct type 25 that came in. -/
def good25 (x : S25) : Prop := ((Lit.int .i64 x.f0).wf = true) ∧ (Lit.int .i64 x.f1).wf = true
/-- THE ONE PURE STATEMENT of skywaykeep1_PolygonApart. -/
def skywaykeep1_PolygonApart.Pure : Prop := ∀ (l0 : List (S25)) (a1_0 : Int) (a1_1 : Int) (a2 : Int), (l0.length * 16 ≤ 140737488351232 ∧ ∀ y0 ∈ l0, good25 y0) → ((Lit.int .i64 a1_0).wf = true) → ((Lit.int .i64 a1_1).wf = true) → ((Lit.int .i64 a2).wf = true) → ∃ k, skywaykeep1_PolygonApart.f k l0 a1_0 a1_1 a2 = some true

end Go.Proofs.Yteaddpieonkboaa.PPolygonApart
