/- Made by a program of this session (wip/tools/myprint.py, over the kit's printer): that the Go functions answer as the Lean functions printed beside them. -/
import Derived.Test.YtbpbpojnfhhbjaaPChartBetweenx0
import Derived.Test.YtbpbpojnfhhbjaaPChartBetweenx5
import Derived.Test.YtbpbpojnfhhbjaaPChartBetweenx6
namespace Go.Proofs.Ytbpbpojnfhhbjaa.PChartBetween
open Go.RowKit Go.Proofs.YtbpbpojnfhhbjaaW.PrintWords Go.Proofs.YtbpbpojnfhhbjaaW.PrintLast Go.Proofs.YtbpbpojnfhhbjaaW.PrintMore
attribute [local go_sem] max2_int min2_int max_two min_two max_three min_three max_four min_four   -- for this text's walks alone
set_option linter.unusedVariables false
set_option linter.unusedSimpArgs false

/-! ### skywaykeep1_ChartBetween: function 3 -/
mutual
def skywaykeep1_ChartBetween.j0 : Nat → ByteArray → ByteArray → List ByteArray → Int → List ByteArray → Int → Bool → Option (Bool)
  | 0, _, _, _, _, _, _, _ => none
  | k + 1, x2, x3, x9, x10, x11, x12, x37 => if x37 = true then (if x10 = x12 then (some ((wrap64 ((x9.length : Int) + (x11.length : Int))) == 0)) else (some false)) else (if (x9.length : Int) = 0 then (skywaykeep1_ChartBetween.j1 k x9 x11 true) else (if (x9.length : Int) = (x11.length : Int) then (if 0 < (x9.length : Int) then (if (rdOf ByteArray.empty x9 0).toList = x2.toList then (if 0 ≤ (wrap64 ((x9.length : Int) - 1)) then (if (wrap64 ((x9.length : Int) - 1)) < (x9.length : Int) then (skywaykeep1_ChartBetween.j1 k x9 x11 ((rdOf ByteArray.empty x9 (wrap64 ((x9.length : Int) - 1))).toList != x3.toList)) else (none)) else (none)) else (skywaykeep1_ChartBetween.j1 k x9 x11 true)) else (none)) else (skywaykeep1_ChartBetween.j1 k x9 x11 true)))
def skywaykeep1_ChartBetween.j1 : Nat → List ByteArray → List ByteArray → Bool → Option (Bool)
  | 0, _, _, _ => none
  | k + 1, x9, x11, x75 => if x75 = true then (some false) else (skywaykeep1_ChartBetween.l0 k x9 x11 (x9.length : Int) 0)
def skywaykeep1_ChartBetween.l0 : Nat → List ByteArray → List ByteArray → Int → Int → Option (Bool)
  | 0, _, _, _, _ => none
  | k + 1, x9, x11, x77, x78 => if x78 < x77 then (if 0 ≤ x78 then (if x78 < (x9.length : Int) then (if 0 ≤ (wrap64 ((wrap64 ((x11.length : Int) - 1)) - x78)) then (if (wrap64 ((wrap64 ((x11.length : Int) - 1)) - x78)) < (x11.length : Int) then (if (rdOf ByteArray.empty x9 x78).toList = (rdOf ByteArray.empty x11 (wrap64 ((wrap64 ((x11.length : Int) - 1)) - x78))).toList then (skywaykeep1_ChartBetween.l0 k x9 x11 x77 (wrap64 (x78 + 1))) else (some false)) else (none)) else (none)) else (none)) else (none)) else (some true)
end
def skywaykeep1_ChartBetween.f (k : Nat) (l0_0 : List (S40)) (l0_1 : List (S48)) (a1 : ByteArray) (a2 : ByteArray) (a3 : ByteArray) : Option (Bool) := (skywaykeep1_chartWorks.f k).bind fun t222 => (if t222 = true then ((chart_Between.f k l0_0 l0_1 a1 a2 a3).bind fun bt223 => ((chart_Between.f k l0_0 l0_1 a1 a3 a2).bind fun bt227 => (if bt223.2 = 0 then (skywaykeep1_ChartBetween.j0 k a2 a3 bt223.1 bt223.2 bt227.1 bt227.2 (bt227.2 != 0)) else (skywaykeep1_ChartBetween.j0 k a2 a3 bt223.1 bt223.2 bt227.1 bt227.2 true)))) else (some false))
theorem skywaykeep1_ChartBetween.mono_l : ∀ k, (∀ y0 y1 y2 y3 y4 y5 y6, LeO (skywaykeep1_ChartBetween.j0 k y0 y1 y2 y3 y4 y5 y6) (skywaykeep1_ChartBetween.j0 (k + 1) y0 y1 y2 y3 y4 y5 y6)) ∧ (∀ y0 y1 y2, LeO (skywaykeep1_ChartBetween.j1 k y0 y1 y2) (skywaykeep1_ChartBetween.j1 (k + 1) y0 y1 y2)) ∧ (∀ y0 y1 y2 y3, LeO (skywaykeep1_ChartBetween.l0 k y0 y1 y2 y3) (skywaykeep1_ChartBetween.l0 (k + 1) y0 y1 y2 y3))
  | 0 => ⟨fun _ _ _ _ _ _ _ r h => by simp [skywaykeep1_ChartBetween.j0] at h, fun _ _ _ r h => by simp [skywaykeep1_ChartBetween.j1] at h, fun _ _ _ _ r h => by simp [skywaykeep1_ChartBetween.l0] at h⟩
  | k + 1 => by
    obtain ⟨ih0, ih1, ih2⟩ := skywaykeep1_ChartBetween.mono_l k
    refine ⟨?_, ?_, ?_⟩
    · intro y0 y1 y2 y3 y4 y5 y6
      unfold skywaykeep1_ChartBetween.j0
      repeat' first
      | (with_reducible exact ih0 _ _ _ _ _ _ _)
      | (with_reducible exact ih1 _ _ _)
      | (with_reducible exact ih2 _ _ _ _)
      | (with_reducible exact chart_Between.mono _ _ _ _ _ _)
      | (with_reducible exact skywaykeep1_chartWorks.mono _)
      | (with_reducible exact LeO.refl _)
      | (with_reducible exact LeO.none _)
      | (with_reducible refine LeO.ite ?_ ?_)
      | (with_reducible refine LeO.bind ?_ (fun _ => ?_))
      | exact ih0 _ _ _ _ _ _ _
      | exact ih1 _ _ _
      | exact ih2 _ _ _ _
      | exact chart_Between.mono _ _ _ _ _ _
      | exact skywaykeep1_chartWorks.mono _
      | exact LeO.none _
      | refine LeO.ite ?_ ?_
      | refine LeO.bind ?_ (fun _ => ?_)
    · intro y0 y1 y2
      unfold skywaykeep1_ChartBetween.j1
      repeat' first
      | (with_reducible exact ih0 _ _ _ _ _ _ _)
      | (with_reducible exact ih1 _ _ _)
      | (with_reducible exact ih2 _ _ _ _)
      | (with_reducible exact chart_Between.mono _ _ _ _ _ _)
      | (with_reducible exact skywaykeep1_chartWorks.mono _)
      | (with_reducible exact LeO.refl _)
      | (with_reducible exact LeO.none _)
      | (with_reducible refine LeO.ite ?_ ?_)
      | (with_reducible refine LeO.bind ?_ (fun _ => ?_))
      | exact ih0 _ _ _ _ _ _ _
      | exact ih1 _ _ _
      | exact ih2 _ _ _ _
      | exact chart_Between.mono _ _ _ _ _ _
      | exact skywaykeep1_chartWorks.mono _
      | exact LeO.none _
      | refine LeO.ite ?_ ?_
      | refine LeO.bind ?_ (fun _ => ?_)
    · intro y0 y1 y2 y3
      unfold skywaykeep1_ChartBetween.l0
      repeat' first
      | (with_reducible exact ih0 _ _ _ _ _ _ _)
      | (with_reducible exact ih1 _ _ _)
      | (with_reducible exact ih2 _ _ _ _)
      | (with_reducible exact chart_Between.mono _ _ _ _ _ _)
      | (with_reducible exact skywaykeep1_chartWorks.mono _)
      | (with_reducible exact LeO.refl _)
      | (with_reducible exact LeO.none _)
      | (with_reducible refine LeO.ite ?_ ?_)
      | (with_reducible refine LeO.bind ?_ (fun _ => ?_))
      | exact ih0 _ _ _ _ _ _ _
      | exact ih1 _ _ _
      | exact ih2 _ _ _ _
      | exact chart_Between.mono _ _ _ _ _ _
      | exact skywaykeep1_chartWorks.mono _
      | exact LeO.none _
      | refine LeO.ite ?_ ?_
      | refine LeO.bind ?_ (fun _ => ?_)
theorem skywaykeep1_ChartBetween.mono : ∀ a0 a1 a2 a3 a4 k, LeO (skywaykeep1_ChartBetween.f k a0 a1 a2 a3 a4) (skywaykeep1_ChartBetween.f (k + 1) a0 a1 a2 a3 a4) := by
  intro a0 a1 a2 a3 a4 k
  obtain ⟨ih0, ih1, ih2⟩ := skywaykeep1_ChartBetween.mono_l k
  unfold skywaykeep1_ChartBetween.f
  repeat' first
      | (with_reducible exact ih0 _ _ _ _ _ _ _)
      | (with_reducible exact ih1 _ _ _)
      | (with_reducible exact ih2 _ _ _ _)
      | (with_reducible exact chart_Between.mono _ _ _ _ _ _)
      | (with_reducible exact skywaykeep1_chartWorks.mono _)
      | (with_reducible exact LeO.refl _)
      | (with_reducible exact LeO.none _)
      | (with_reducible refine LeO.ite ?_ ?_)
      | (with_reducible refine LeO.bind ?_ (fun _ => ?_))
      | exact ih0 _ _ _ _ _ _ _
      | exact ih1 _ _ _
      | exact ih2 _ _ _ _
      | exact chart_Between.mono _ _ _ _ _ _
      | exact skywaykeep1_chartWorks.mono _
      | exact LeO.none _
      | refine LeO.ite ?_ ?_
      | refine LeO.bind ?_ (fun _ => ?_)
set_option maxHeartbeats 8000000 in
set_option maxRecDepth 100000 in
theorem skywaykeep1_ChartBetween.calls (k : Nat) (A0_0 : Option Addr) (c0_0 : Nat) (l0_0 : List (S40)) (A0_1 : Option Addr) (c0_1 : Nat) (l0_1 : List (S48)) (a1 : ByteArray) (a2 : ByteArray) (a3 : ByteArray) (r : Bool) (w : World) (hr0_0 : Kd.C k40 w A0_0 l0_0.length l0_0) (hc0_0 : l0_0.length ≤ c0_0) (hr0_1 : Kd.C k48 w A0_1 l0_1.length l0_1) (hc0_1 : l0_1.length ≤ c0_1) (h : skywaykeep1_ChartBetween.f k l0_0 l0_1 a1 a2 a3 = some r) :
    Calls Try.prog 3 #[.agg #[.slice A0_0 l0_0.length c0_0, .slice A0_1 l0_1.length c0_1], .string a1, .string a2, .string a3] w fun e w' => e = .returned (.bool r) ∧ Below w.heap.size w w' := by
 have hu25 := Try.underlying25
 have HR0_0 := Aside0.mk hr0_0
 have HC0_0 := Aside0.mk hc0_0
 clear hr0_0 hc0_0
 have HR0_1 := Aside0.mk hr0_1
 have HC0_1 := Aside0.mk hc0_1
 clear hr0_1 hc0_1
 have HB := Aside0.mk (Below.refl w.heap.size w)
 have H : ((skywaykeep1_chartWorks.f k).bind fun t222 => (if t222 = true then ((chart_Between.f k l0_0 l0_1 a1 a2 a3).bind fun bt223 => ((chart_Between.f k l0_0 l0_1 a1 a3 a2).bind fun bt227 => (if bt223.2 = 0 then (skywaykeep1_ChartBetween.j0 k a2 a3 bt223.1 bt223.2 bt227.1 bt227.2 (bt227.2 != 0)) else (skywaykeep1_ChartBetween.j0 k a2 a3 bt223.1 bt223.2 bt227.1 bt227.2 true)))) else (some false))) = some r := h
 clear h
 replace H := Option.bind_eq_some_iff.mp H
 obtain ⟨t222, A50, H⟩ := H
 replace H : (if t222 = true then ((chart_Between.f k l0_0 l0_1 a1 a2 a3).bind fun bt223 => ((chart_Between.f k l0_0 l0_1 a1 a3 a2).bind fun bt227 => (if bt223.2 = 0 then (skywaykeep1_ChartBetween.j0 k a2 a3 bt223.1 bt223.2 bt227.1 bt227.2 (bt227.2 != 0)) else (skywaykeep1_ChartBetween.j0 k a2 a3 bt223.1 bt223.2 bt227.1 bt227.2 true)))) else (some false)) = some r := H
 have A5 := Aside0.mk A50
 clear A50
 by_cases c6 : t222 = true
 · subst c6
   have H1 : ((chart_Between.f k l0_0 l0_1 a1 a2 a3).bind fun bt223 => ((chart_Between.f k l0_0 l0_1 a1 a3 a2).bind fun bt227 => (if bt223.2 = 0 then (skywaykeep1_ChartBetween.j0 k a2 a3 bt223.1 bt223.2 bt227.1 bt227.2 (bt227.2 != 0)) else (skywaykeep1_ChartBetween.j0 k a2 a3 bt223.1 bt223.2 bt227.1 bt227.2 true)))) = some r := by rw [if_pos rfl] at H; exact H
   clear H
   have H := H1
   clear H1
   replace H := Option.bind_eq_some_iff.mp H
   obtain ⟨⟨t223, t226⟩, A70, H⟩ := H
   replace H : ((chart_Between.f k l0_0 l0_1 a1 a3 a2).bind fun bt227 => (if t226 = 0 then (skywaykeep1_ChartBetween.j0 k a2 a3 t223 t226 bt227.1 bt227.2 (bt227.2 != 0)) else (skywaykeep1_ChartBetween.j0 k a2 a3 t223 t226 bt227.1 bt227.2 true))) = some r := H
   have A7 := Aside0.mk A70
   clear A70
   replace H := Option.bind_eq_some_iff.mp H
   obtain ⟨⟨t227, t230⟩, A80, H⟩ := H
   replace H : (if t226 = 0 then (skywaykeep1_ChartBetween.j0 k a2 a3 t223 t226 t227 t230 (t230 != 0)) else (skywaykeep1_ChartBetween.j0 k a2 a3 t223 t226 t227 t230 true)) = some r := H
   have A8 := Aside0.mk A80
   clear A80
   have HC9 := Aside0.mk H
   clear H
   go_enter Try.func3, Try.ntmps3
   go_upto_region 5 with (first | ((with_reducible refine gate_dst (N := 4) rfl ?_); (try (refine gate_guard (by rfl) ?_; dsimp only)); refine box_event ?hg (N := 4) ?hd (cs := #[.slice A0_0 l0_0.length c0_0, .slice A0_1 l0_1.length c0_1]) (t := 25) ?hr ?_; (case hd => rfl); (case hg => rfl); (case hr => first | (go_simp; done) | (go_simp; rfl)); intro gb221 hg wxd67e1 hbox hb; have n0_ := Aside0.mk (below_step (by repeat (first | (with_reducible first | exact HB.out | apply below_alloc | apply pw_below_drewN | apply below_drew1) | exact HB.out)) hb); have n1_ := Aside0.mk (hbox); have n2_ := Aside0.mk ((by rw [hg]; exact (below_size (by repeat (first | (with_reducible first | exact HB.out | apply below_alloc | apply pw_below_drewN | apply below_drew1) | exact HB.out))) : w.heap.size ≤ gb221)); have n3_ := Aside0.mk ((by rw [hg]; exact (below_size (by repeat (first | (with_reducible first | exact HB.out | apply below_alloc | apply pw_below_drewN | apply below_drew1) | exact HB.out))) : w.heap.size ≤ gb221)); clear HB; have HB := n0_; have BK221 := n1_; have GW221 := n2_; have GE221 := n3_; clear n0_ n1_ n2_ n3_; clear hb hbox hg) | (go_at_call 15; (with_reducible refine (skywaykeep1_chartWorks.calls k  true _ A5.out).mono ?_); rintro e wx23111 ⟨rfl, hb⟩; have n0_ := Aside0.mk (blk_below (g := gb221) (o := .cells #[.slice A0_0 l0_0.length c0_0, .slice A0_1 l0_1.length c0_1] 25 (0, 0)) (by (with_reducible repeat (first | refine blk_drewN ?_ _ | refine blk_drew ?_ | refine blk_alloc ?_ _)); exact BK221.out) hb); have n1_ := Aside0.mk (below_step (by repeat (first | (with_reducible first | exact HB.out | apply below_alloc | apply pw_below_drewN | apply below_drew1 | refine below_set ?_ GE221.out) | exact HB.out)) hb); clear BK221; clear HB; have BK221 := n0_; have HB := n1_; clear n0_ n1_; (try clear hb); (try clear hb2); (try clear hk); (try clear hi); have hczx23111 : wx23111.cell? ⟨gb221, 0, none⟩ = some (.slice A0_0 l0_0.length c0_0) := (blk_cell BK221.out 0).trans rfl; have hczx23112 : wx23111.cell? ⟨gb221, 1, none⟩ = some (.slice A0_1 l0_1.length c0_1) := (blk_cell BK221.out 1).trans rfl; have hfzx23111 := blk_frozen BK221.out 0; have hfzx23112 := blk_frozen BK221.out 1) | (go_at_call 16; (with_reducible refine (chart_Between.calls k _ _ l0_0 _ _ l0_1 a1 a2 a3 t223 t226 _ ?side1 ?side2 ?side3 ?side4 A7.out).mono ?_); (case side1 => repeat (first | exact (Kd.C_below HR0_0.out HB.out) | (with_reducible refine Kd.C_alloc ?_ _) | (with_reducible refine Kd.C_drewN ?_ _) | (with_reducible refine Kd.C_drew ?_))); (case side2 => exact HC0_0.out); (case side3 => repeat (first | exact (Kd.C_below HR0_1.out HB.out) | (with_reducible refine Kd.C_alloc ?_ _) | (with_reducible refine Kd.C_drewN ?_ _) | (with_reducible refine Kd.C_drew ?_))); (case side4 => exact HC0_1.out); rintro e wx18f31 ⟨v224, rfl, hox18f31, hb⟩; have n0_ := Aside0.mk (Kd.R_lower hox18f31 (below_size (by repeat (first | (with_reducible first | exact HB.out | apply below_alloc | apply pw_below_drewN | apply below_drew1 | refine below_set ?_ GE221.out) | exact HB.out)))); have n1_ := Aside0.mk (blk_below (g := gb221) (o := .cells #[.slice A0_0 l0_0.length c0_0, .slice A0_1 l0_1.length c0_1] 25 (0, 0)) (by (with_reducible repeat (first | refine blk_drewN ?_ _ | refine blk_drew ?_ | refine blk_alloc ?_ _)); exact BK221.out) hb); have n2_ := Aside0.mk (below_step (by repeat (first | (with_reducible first | exact HB.out | apply below_alloc | apply pw_below_drewN | apply below_drew1 | refine below_set ?_ GE221.out) | exact HB.out)) hb); clear BK221; clear HB; have HO225 := n0_; have BK221 := n1_; have HB := n2_; clear n0_ n1_ n2_; (try clear hb); (try clear hb2); (try clear hk); (try clear hi); (try clear hox18f31); have hczx18f31 : wx18f31.cell? ⟨gb221, 0, none⟩ = some (.slice A0_0 l0_0.length c0_0) := (blk_cell BK221.out 0).trans rfl; have hczx18f32 : wx18f31.cell? ⟨gb221, 1, none⟩ = some (.slice A0_1 l0_1.length c0_1) := (blk_cell BK221.out 1).trans rfl; have hfzx18f31 := blk_frozen BK221.out 0; have hfzx18f32 := blk_frozen BK221.out 1) | (go_at_call 16; (with_reducible refine (chart_Between.calls k _ _ l0_0 _ _ l0_1 a1 a3 a2 t227 t230 _ ?side1 ?side2 ?side3 ?side4 A8.out).mono ?_); (case side1 => repeat (first | exact (Kd.C_below HR0_0.out HB.out) | (with_reducible refine Kd.C_alloc ?_ _) | (with_reducible refine Kd.C_drewN ?_ _) | (with_reducible refine Kd.C_drew ?_))); (case side2 => exact HC0_0.out); (case side3 => repeat (first | exact (Kd.C_below HR0_1.out HB.out) | (with_reducible refine Kd.C_alloc ?_ _) | (with_reducible refine Kd.C_drewN ?_ _) | (with_reducible refine Kd.C_drew ?_))); (case side4 => exact HC0_1.out); rintro e wx2dce1 ⟨v228, rfl, hox18f31, hb⟩; have n0_ := Aside0.mk (Kd.R_elder' (by (with_reducible repeat (first | apply Kd.R_alloc | apply Kd.R_drewN | apply Kd.R_drew)); exact HO225.out) (Kd.R_base hox18f31) hb); have n1_ := Aside0.mk (Kd.R_lower (Kd.R_new' hox18f31 (Kd.R_lt (by (with_reducible repeat (first | apply Kd.R_alloc | apply Kd.R_drewN | apply Kd.R_drew)); exact HO225.out))) (below_size (by repeat (first | (with_reducible first | exact HB.out | apply below_alloc | apply pw_below_drewN | apply below_drew1 | refine below_set ?_ GE221.out) | exact HB.out)))); have n2_ := Aside0.mk (blk_below (g := gb221) (o := .cells #[.slice A0_0 l0_0.length c0_0, .slice A0_1 l0_1.length c0_1] 25 (0, 0)) (by (with_reducible repeat (first | refine blk_drewN ?_ _ | refine blk_drew ?_ | refine blk_alloc ?_ _)); exact BK221.out) hb); have n3_ := Aside0.mk (below_step (by repeat (first | (with_reducible first | exact HB.out | apply below_alloc | apply pw_below_drewN | apply below_drew1 | refine below_set ?_ GE221.out) | exact HB.out)) hb); clear HO225; clear BK221; clear HB; have HO225 := n0_; have HO229 := n1_; have BK221 := n2_; have HB := n3_; clear n0_ n1_ n2_ n3_; (try clear hb); (try clear hb2); (try clear hk); (try clear hi); (try clear hox18f31)))
   repeat (go_quiet (first | ((with_reducible refine gate_dst (N := 4) rfl ?_); (try (refine gate_guard (by rfl) ?_; dsimp only)); refine box_event ?hg (N := 4) ?hd (cs := #[.slice A0_0 l0_0.length c0_0, .slice A0_1 l0_1.length c0_1]) (t := 25) ?hr ?_; (case hd => rfl); (case hg => rfl); (case hr => first | (go_simp; done) | (go_simp; rfl)); intro gb221 hg wxd67e1 hbox hb; have n0_ := Aside0.mk (below_step (by repeat (first | (with_reducible first | exact HB.out | apply below_alloc | apply pw_below_drewN | apply below_drew1) | exact HB.out)) hb); have n1_ := Aside0.mk (hbox); have n2_ := Aside0.mk ((by rw [hg]; exact (below_size (by repeat (first | (with_reducible first | exact HB.out | apply below_alloc | apply pw_below_drewN | apply below_drew1) | exact HB.out))) : w.heap.size ≤ gb221)); have n3_ := Aside0.mk ((by rw [hg]; exact (below_size (by repeat (first | (with_reducible first | exact HB.out | apply below_alloc | apply pw_below_drewN | apply below_drew1) | exact HB.out))) : w.heap.size ≤ gb221)); clear HB; have HB := n0_; have BK221 := n1_; have GW221 := n2_; have GE221 := n3_; clear n0_ n1_ n2_ n3_; clear hb hbox hg) | (go_at_call 15; (with_reducible refine (skywaykeep1_chartWorks.calls k  true _ A5.out).mono ?_); rintro e wx23111 ⟨rfl, hb⟩; have n0_ := Aside0.mk (blk_below (g := gb221) (o := .cells #[.slice A0_0 l0_0.length c0_0, .slice A0_1 l0_1.length c0_1] 25 (0, 0)) (by (with_reducible repeat (first | refine blk_drewN ?_ _ | refine blk_drew ?_ | refine blk_alloc ?_ _)); exact BK221.out) hb); have n1_ := Aside0.mk (below_step (by repeat (first | (with_reducible first | exact HB.out | apply below_alloc | apply pw_below_drewN | apply below_drew1 | refine below_set ?_ GE221.out) | exact HB.out)) hb); clear BK221; clear HB; have BK221 := n0_; have HB := n1_; clear n0_ n1_; (try clear hb); (try clear hb2); (try clear hk); (try clear hi); have hczx23111 : wx23111.cell? ⟨gb221, 0, none⟩ = some (.slice A0_0 l0_0.length c0_0) := (blk_cell BK221.out 0).trans rfl; have hczx23112 : wx23111.cell? ⟨gb221, 1, none⟩ = some (.slice A0_1 l0_1.length c0_1) := (blk_cell BK221.out 1).trans rfl; have hfzx23111 := blk_frozen BK221.out 0; have hfzx23112 := blk_frozen BK221.out 1) | (go_at_call 16; (with_reducible refine (chart_Between.calls k _ _ l0_0 _ _ l0_1 a1 a2 a3 t223 t226 _ ?side1 ?side2 ?side3 ?side4 A7.out).mono ?_); (case side1 => repeat (first | exact (Kd.C_below HR0_0.out HB.out) | (with_reducible refine Kd.C_alloc ?_ _) | (with_reducible refine Kd.C_drewN ?_ _) | (with_reducible refine Kd.C_drew ?_))); (case side2 => exact HC0_0.out); (case side3 => repeat (first | exact (Kd.C_below HR0_1.out HB.out) | (with_reducible refine Kd.C_alloc ?_ _) | (with_reducible refine Kd.C_drewN ?_ _) | (with_reducible refine Kd.C_drew ?_))); (case side4 => exact HC0_1.out); rintro e wx18f31 ⟨v224, rfl, hox18f31, hb⟩; have n0_ := Aside0.mk (Kd.R_lower hox18f31 (below_size (by repeat (first | (with_reducible first | exact HB.out | apply below_alloc | apply pw_below_drewN | apply below_drew1 | refine below_set ?_ GE221.out) | exact HB.out)))); have n1_ := Aside0.mk (blk_below (g := gb221) (o := .cells #[.slice A0_0 l0_0.length c0_0, .slice A0_1 l0_1.length c0_1] 25 (0, 0)) (by (with_reducible repeat (first | refine blk_drewN ?_ _ | refine blk_drew ?_ | refine blk_alloc ?_ _)); exact BK221.out) hb); have n2_ := Aside0.mk (below_step (by repeat (first | (with_reducible first | exact HB.out | apply below_alloc | apply pw_below_drewN | apply below_drew1 | refine below_set ?_ GE221.out) | exact HB.out)) hb); clear BK221; clear HB; have HO225 := n0_; have BK221 := n1_; have HB := n2_; clear n0_ n1_ n2_; (try clear hb); (try clear hb2); (try clear hk); (try clear hi); (try clear hox18f31); have hczx18f31 : wx18f31.cell? ⟨gb221, 0, none⟩ = some (.slice A0_0 l0_0.length c0_0) := (blk_cell BK221.out 0).trans rfl; have hczx18f32 : wx18f31.cell? ⟨gb221, 1, none⟩ = some (.slice A0_1 l0_1.length c0_1) := (blk_cell BK221.out 1).trans rfl; have hfzx18f31 := blk_frozen BK221.out 0; have hfzx18f32 := blk_frozen BK221.out 1) | (go_at_call 16; (with_reducible refine (chart_Between.calls k _ _ l0_0 _ _ l0_1 a1 a3 a2 t227 t230 _ ?side1 ?side2 ?side3 ?side4 A8.out).mono ?_); (case side1 => repeat (first | exact (Kd.C_below HR0_0.out HB.out) | (with_reducible refine Kd.C_alloc ?_ _) | (with_reducible refine Kd.C_drewN ?_ _) | (with_reducible refine Kd.C_drew ?_))); (case side2 => exact HC0_0.out); (case side3 => repeat (first | exact (Kd.C_below HR0_1.out HB.out) | (with_reducible refine Kd.C_alloc ?_ _) | (with_reducible refine Kd.C_drewN ?_ _) | (with_reducible refine Kd.C_drew ?_))); (case side4 => exact HC0_1.out); rintro e wx2dce1 ⟨v228, rfl, hox18f31, hb⟩; have n0_ := Aside0.mk (Kd.R_elder' (by (with_reducible repeat (first | apply Kd.R_alloc | apply Kd.R_drewN | apply Kd.R_drew)); exact HO225.out) (Kd.R_base hox18f31) hb); have n1_ := Aside0.mk (Kd.R_lower (Kd.R_new' hox18f31 (Kd.R_lt (by (with_reducible repeat (first | apply Kd.R_alloc | apply Kd.R_drewN | apply Kd.R_drew)); exact HO225.out))) (below_size (by repeat (first | (with_reducible first | exact HB.out | apply below_alloc | apply pw_below_drewN | apply below_drew1 | refine below_set ?_ GE221.out) | exact HB.out)))); have n2_ := Aside0.mk (blk_below (g := gb221) (o := .cells #[.slice A0_0 l0_0.length c0_0, .slice A0_1 l0_1.length c0_1] 25 (0, 0)) (by (with_reducible repeat (first | refine blk_drewN ?_ _ | refine blk_drew ?_ | refine blk_alloc ?_ _)); exact BK221.out) hb); have n3_ := Aside0.mk (below_step (by repeat (first | (with_reducible first | exact HB.out | apply below_alloc | apply pw_below_drewN | apply below_drew1 | refine below_set ?_ GE221.out) | exact HB.out)) hb); clear HO225; clear BK221; clear HB; have HO225 := n0_; have HO229 := n1_; have BK221 := n2_; have HB := n3_; clear n0_ n1_ n2_ n3_; (try clear hb); (try clear hb2); (try clear hk); (try clear hi); (try clear hox18f31))); go_upto_region 5 with (first | ((with_reducible refine gate_dst (N := 4) rfl ?_); (try (refine gate_guard (by rfl) ?_; dsimp only)); refine box_event ?hg (N := 4) ?hd (cs := #[.slice A0_0 l0_0.length c0_0, .slice A0_1 l0_1.length c0_1]) (t := 25) ?hr ?_; (case hd => rfl); (case hg => rfl); (case hr => first | (go_simp; done) | (go_simp; rfl)); intro gb221 hg wxd67e1 hbox hb; have n0_ := Aside0.mk (below_step (by repeat (first | (with_reducible first | exact HB.out | apply below_alloc | apply pw_below_drewN | apply below_drew1) | exact HB.out)) hb); have n1_ := Aside0.mk (hbox); have n2_ := Aside0.mk ((by rw [hg]; exact (below_size (by repeat (first | (with_reducible first | exact HB.out | apply below_alloc | apply pw_below_drewN | apply below_drew1) | exact HB.out))) : w.heap.size ≤ gb221)); have n3_ := Aside0.mk ((by rw [hg]; exact (below_size (by repeat (first | (with_reducible first | exact HB.out | apply below_alloc | apply pw_below_drewN | apply below_drew1) | exact HB.out))) : w.heap.size ≤ gb221)); clear HB; have HB := n0_; have BK221 := n1_; have GW221 := n2_; have GE221 := n3_; clear n0_ n1_ n2_ n3_; clear hb hbox hg) | (go_at_call 15; (with_reducible refine (skywaykeep1_chartWorks.calls k  true _ A5.out).mono ?_); rintro e wx23111 ⟨rfl, hb⟩; have n0_ := Aside0.mk (blk_below (g := gb221) (o := .cells #[.slice A0_0 l0_0.length c0_0, .slice A0_1 l0_1.length c0_1] 25 (0, 0)) (by (with_reducible repeat (first | refine blk_drewN ?_ _ | refine blk_drew ?_ | refine blk_alloc ?_ _)); exact BK221.out) hb); have n1_ := Aside0.mk (below_step (by repeat (first | (with_reducible first | exact HB.out | apply below_alloc | apply pw_below_drewN | apply below_drew1 | refine below_set ?_ GE221.out) | exact HB.out)) hb); clear BK221; clear HB; have BK221 := n0_; have HB := n1_; clear n0_ n1_; (try clear hb); (try clear hb2); (try clear hk); (try clear hi); have hczx23111 : wx23111.cell? ⟨gb221, 0, none⟩ = some (.slice A0_0 l0_0.length c0_0) := (blk_cell BK221.out 0).trans rfl; have hczx23112 : wx23111.cell? ⟨gb221, 1, none⟩ = some (.slice A0_1 l0_1.length c0_1) := (blk_cell BK221.out 1).trans rfl; have hfzx23111 := blk_frozen BK221.out 0; have hfzx23112 := blk_frozen BK221.out 1) | (go_at_call 16; (with_reducible refine (chart_Between.calls k _ _ l0_0 _ _ l0_1 a1 a2 a3 t223 t226 _ ?side1 ?side2 ?side3 ?side4 A7.out).mono ?_); (case side1 => repeat (first | exact (Kd.C_below HR0_0.out HB.out) | (with_reducible refine Kd.C_alloc ?_ _) | (with_reducible refine Kd.C_drewN ?_ _) | (with_reducible refine Kd.C_drew ?_))); (case side2 => exact HC0_0.out); (case side3 => repeat (first | exact (Kd.C_below HR0_1.out HB.out) | (with_reducible refine Kd.C_alloc ?_ _) | (with_reducible refine Kd.C_drewN ?_ _) | (with_reducible refine Kd.C_drew ?_))); (case side4 => exact HC0_1.out); rintro e wx18f31 ⟨v224, rfl, hox18f31, hb⟩; have n0_ := Aside0.mk (Kd.R_lower hox18f31 (below_size (by repeat (first | (with_reducible first | exact HB.out | apply below_alloc | apply pw_below_drewN | apply below_drew1 | refine below_set ?_ GE221.out) | exact HB.out)))); have n1_ := Aside0.mk (blk_below (g := gb221) (o := .cells #[.slice A0_0 l0_0.length c0_0, .slice A0_1 l0_1.length c0_1] 25 (0, 0)) (by (with_reducible repeat (first | refine blk_drewN ?_ _ | refine blk_drew ?_ | refine blk_alloc ?_ _)); exact BK221.out) hb); have n2_ := Aside0.mk (below_step (by repeat (first | (with_reducible first | exact HB.out | apply below_alloc | apply pw_below_drewN | apply below_drew1 | refine below_set ?_ GE221.out) | exact HB.out)) hb); clear BK221; clear HB; have HO225 := n0_; have BK221 := n1_; have HB := n2_; clear n0_ n1_ n2_; (try clear hb); (try clear hb2); (try clear hk); (try clear hi); (try clear hox18f31); have hczx18f31 : wx18f31.cell? ⟨gb221, 0, none⟩ = some (.slice A0_0 l0_0.length c0_0) := (blk_cell BK221.out 0).trans rfl; have hczx18f32 : wx18f31.cell? ⟨gb221, 1, none⟩ = some (.slice A0_1 l0_1.length c0_1) := (blk_cell BK221.out 1).trans rfl; have hfzx18f31 := blk_frozen BK221.out 0; have hfzx18f32 := blk_frozen BK221.out 1) | (go_at_call 16; (with_reducible refine (chart_Between.calls k _ _ l0_0 _ _ l0_1 a1 a3 a2 t227 t230 _ ?side1 ?side2 ?side3 ?side4 A8.out).mono ?_); (case side1 => repeat (first | exact (Kd.C_below HR0_0.out HB.out) | (with_reducible refine Kd.C_alloc ?_ _) | (with_reducible refine Kd.C_drewN ?_ _) | (with_reducible refine Kd.C_drew ?_))); (case side2 => exact HC0_0.out); (case side3 => repeat (first | exact (Kd.C_below HR0_1.out HB.out) | (with_reducible refine Kd.C_alloc ?_ _) | (with_reducible refine Kd.C_drewN ?_ _) | (with_reducible refine Kd.C_drew ?_))); (case side4 => exact HC0_1.out); rintro e wx2dce1 ⟨v228, rfl, hox18f31, hb⟩; have n0_ := Aside0.mk (Kd.R_elder' (by (with_reducible repeat (first | apply Kd.R_alloc | apply Kd.R_drewN | apply Kd.R_drew)); exact HO225.out) (Kd.R_base hox18f31) hb); have n1_ := Aside0.mk (Kd.R_lower (Kd.R_new' hox18f31 (Kd.R_lt (by (with_reducible repeat (first | apply Kd.R_alloc | apply Kd.R_drewN | apply Kd.R_drew)); exact HO225.out))) (below_size (by repeat (first | (with_reducible first | exact HB.out | apply below_alloc | apply pw_below_drewN | apply below_drew1 | refine below_set ?_ GE221.out) | exact HB.out)))); have n2_ := Aside0.mk (blk_below (g := gb221) (o := .cells #[.slice A0_0 l0_0.length c0_0, .slice A0_1 l0_1.length c0_1] 25 (0, 0)) (by (with_reducible repeat (first | refine blk_drewN ?_ _ | refine blk_drew ?_ | refine blk_alloc ?_ _)); exact BK221.out) hb); have n3_ := Aside0.mk (below_step (by repeat (first | (with_reducible first | exact HB.out | apply below_alloc | apply pw_below_drewN | apply below_drew1 | refine below_set ?_ GE221.out) | exact HB.out)) hb); clear HO225; clear BK221; clear HB; have HO225 := n0_; have HO229 := n1_; have BK221 := n2_; have HB := n3_; clear n0_ n1_ n2_ n3_; (try clear hb); (try clear hb2); (try clear hk); (try clear hi); (try clear hox18f31))))
   (try simp only [Act.put, List.setIfInBounds_toArray, List.set_cons_zero, List.set_cons_succ])
   go_cut [37] (fun v37 wc => ∃ (kq : Nat) (x37_8 : Bool), v37 = .bool x37_8 ∧ Aside0 (skywaykeep1_ChartBetween.j0 kq a2 a3 t223 t226 t227 t230 x37_8 = some r) ∧ Aside0 (kq ≤ k) ∧ Aside0 (Kd.R Kd.string 9 wc w.heap.size (fun k_ => some k_ ≠ (v228 : Value).ownBlock) v224 t223) ∧ Aside0 (Kd.R Kd.string 9 wc w.heap.size (fun k_ => some k_ ≠ (v224 : Value).ownBlock) v228 t227) ∧ Aside0 (wc.heap[gb221]? = some (.cells #[(.slice A0_0 l0_0.length c0_0), (.slice A0_1 l0_1.length c0_1)] 25 (0, 0))) ∧ Aside0 (Below w.heap.size w wc))
   case first =>
    have H := HC9.out
    clear HC9
    refine Or.elim (Classical.em (t226 = 0)) (fun c16 => ?p2_) (fun c16 => ?n2_)
    case' p2_ =>
     rw [if_pos c16] at H
     have c16b0 : (t226 == 0) = true := beq_iff_eq.mpr c16
     have c16b1 : (t226 != 0) = false := bne_eq_false_iff_eq.mpr c16
     clear c16
     (first | rw [c16b0] | (simp only [i64_w, i32_w]; rw [c16b0]) | skip)
    case' n2_ =>
     rw [if_neg c16] at H
     have c16b0 : (t226 == 0) = false := beq_eq_false_iff_ne.mpr c16
     have c16b1 : (t226 != 0) = true := bne_iff_ne.mpr c16
     (first | rw [c16b0] | (simp only [i64_w, i32_w]; rw [c16b0]) | skip)
    all_goals
     have H' := Aside0.mk H
     clear H
     go_wp2
     repeat (go_quiet (fail); try go_wp2)
     go_meet
     case rel => first | (exact ⟨_, ((t230 != 0)), (by first | rfl | (simp; done) | (simp [*]; done)), H', ⟨by first | omega | exact Nat.le_refl _⟩, ⟨by (with_reducible repeat (first | apply Kd.R_alloc | apply Kd.R_drewN | apply Kd.R_drew)); exact Kd.R_mono HO225.out (fun _ hk => hk.2)⟩, ⟨by (with_reducible repeat (first | apply Kd.R_alloc | apply Kd.R_drewN | apply Kd.R_drew)); exact Kd.R_mono HO229.out (fun _ hk => hk.2)⟩, ⟨by (with_reducible repeat (first | refine blk_drewN ?_ _ | refine blk_drew ?_ | refine blk_alloc ?_ _)); exact BK221.out⟩, ⟨by repeat (first | (with_reducible first | exact HB.out | apply below_alloc | apply pw_below_drewN | apply below_drew1 | refine below_set ?_ GE221.out) | exact HB.out)⟩⟩) | (exact ⟨_, (true), (by first | rfl | (simp; done) | (simp [*]; done)), H', ⟨by first | omega | exact Nat.le_refl _⟩, ⟨by (with_reducible repeat (first | apply Kd.R_alloc | apply Kd.R_drewN | apply Kd.R_drew)); exact Kd.R_mono HO225.out (fun _ hk => hk.2)⟩, ⟨by (with_reducible repeat (first | apply Kd.R_alloc | apply Kd.R_drewN | apply Kd.R_drew)); exact Kd.R_mono HO229.out (fun _ hk => hk.2)⟩, ⟨by (with_reducible repeat (first | refine blk_drewN ?_ _ | refine blk_drew ?_ | refine blk_alloc ?_ _)); exact BK221.out⟩, ⟨by repeat (first | (with_reducible first | exact HB.out | apply below_alloc | apply pw_below_drewN | apply below_drew1 | refine below_set ?_ GE221.out) | exact HB.out)⟩⟩)
   case rest =>
    clear HC9
    (try clear c1); (try clear p1); (try clear p2); (try clear c3); (try clear c6); (try clear c16); (try clear c16b0); (try clear c16b1); (try clear hczx23111); (try clear hczx23112); (try clear hczx18f31); (try clear hczx18f32); (try clear hfzx23111); (try clear hfzx23112); (try clear hfzx18f31); (try clear hfzx18f32)
    obtain ⟨kq, x37_8, rfl, HA, HJ8, HO_9, HO_11, BK221, HB⟩ := hcut
    cases kq with
    | zero => exact absurd HA.out (by simp [skywaykeep1_ChartBetween.j0])
    | succ kj8 =>
     have H := HA.out
     clear HA
     simp only [skywaykeep1_ChartBetween.j0] at H
     refine Or.elim (Classical.em (x37_8 = true)) (fun c17 => ?p4_) (fun c17 => ?n4_)
     case' p4_ =>
      subst c17
      have H1 : (if t226 = t230 then (some ((wrap64 ((t223.length : Int) + (t227.length : Int))) == 0)) else (some false)) = some r := by rw [if_pos rfl] at H; exact H
      clear H
      have H := H1
      clear H1
      refine Or.elim (Classical.em (t226 = t230)) (fun c18 => ?p5_) (fun c18 => ?n5_)
      case' p5_ =>
       rw [if_pos c18] at H
       have c18b0 : (t226 == t230) = true := beq_iff_eq.mpr c18
       have c18b1 : (t226 != t230) = false := bne_eq_false_iff_eq.mpr c18
       clear c18
       have hm3_0 := Aside0.mk trivial
      case' n5_ =>
       rw [if_neg c18] at H
       have c18b0 : (t226 == t230) = false := beq_eq_false_iff_ne.mpr c18
       have c18b1 : (t226 != t230) = true := bne_iff_ne.mpr c18
       have hm3_1 := Aside0.mk trivial
     case' n4_ =>
      replace c17 := Bool.eq_false_iff.mpr c17
      subst c17
      have H1 : (if (t223.length : Int) = 0 then (skywaykeep1_ChartBetween.j1 kj8 t223 t227 true) else (if (t223.length : Int) = (t227.length : Int) then (if 0 < (t223.length : Int) then (if (rdOf ByteArray.empty t223 0).toList = a2.toList then (if 0 ≤ (wrap64 ((t223.length : Int) - 1)) then (if (wrap64 ((t223.length : Int) - 1)) < (t223.length : Int) then (skywaykeep1_ChartBetween.j1 kj8 t223 t227 ((rdOf ByteArray.empty t223 (wrap64 ((t223.length : Int) - 1))).toList != a3.toList)) else (none)) else (none)) else (skywaykeep1_ChartBetween.j1 kj8 t223 t227 true)) else (none)) else (skywaykeep1_ChartBetween.j1 kj8 t223 t227 true))) = some r := by rw [if_neg (show ¬ (false = true) by decide)] at H; exact H
      clear H
      have H := H1
      clear H1
      have HC21 := Aside0.mk H
      clear H
      have hm3_2 := Aside0.mk trivial
     all_goals
      first
       | (first | (have _hm := hm3_0) | (have _hm := hm3_1))
         obtain rfl := Option.some.inj H
         first
          | clear hm3_0
            obtain ⟨Aozc1, cozc1, eozc1⟩ := Kd.R_slice HO_9.out
            subst eozc1
            obtain ⟨Aozc2, cozc2, eozc2⟩ := Kd.R_slice HO_11.out
            subst eozc2
            go_wp2
            repeat (go_quiet (fail); try go_wp2)
            go_ret
            exact ⟨by first | rfl | (simp [errW_none, errW_some] <;> rfl) | (simp [*, errW_none, errW_some] <;> rfl), by repeat (first | (with_reducible first | exact HB.out | apply below_alloc | apply pw_below_drewN | apply below_drew1 | refine below_set ?_ GE221.out) | exact HB.out)⟩
          | clear hm3_1
            go_wp2
            repeat (go_quiet (fail); try go_wp2)
            go_ret
            exact ⟨by first | rfl | (simp [errW_none, errW_some] <;> rfl) | (simp [*, errW_none, errW_some] <;> rfl), by repeat (first | (with_reducible first | exact HB.out | apply below_alloc | apply pw_below_drewN | apply below_drew1 | refine below_set ?_ GE221.out) | exact HB.out)⟩
       | clear hm3_2
         go_upto_region 7 with (fail)
         repeat (go_quiet (fail); go_upto_region 7 with (fail))
         go_cut [75] (fun v75 wc => ∃ (kq : Nat) (x75_20 : Bool), v75 = .bool x75_20 ∧ Aside0 (skywaykeep1_ChartBetween.j1 kq t223 t227 x75_20 = some r) ∧ Aside0 (kq ≤ kj8) ∧ Aside0 (Kd.R Kd.string 9 wc w.heap.size (fun k_ => some k_ ≠ (v228 : Value).ownBlock) v224 t223) ∧ Aside0 (Kd.R Kd.string 9 wc w.heap.size (fun k_ => some k_ ≠ (v224 : Value).ownBlock) v228 t227) ∧ Aside0 (wc.heap[gb221]? = some (.cells #[(.slice A0_0 l0_0.length c0_0), (.slice A0_1 l0_1.length c0_1)] 25 (0, 0))) ∧ Aside0 (Below w.heap.size w wc))
         case first =>
          have H := HC21.out
          clear HC21
          refine Or.elim (Classical.em ((t223.length : Int) = 0)) (fun c22 => ?p7_) (fun c22 => ?n7_)
          case' p7_ =>
           rw [if_pos c22] at H
           have c22b0 : ((t223.length : Int) == 0) = true := beq_iff_eq.mpr c22
           have c22b1 : ((t223.length : Int) != 0) = false := bne_eq_false_iff_eq.mpr c22
           clear c22
           (first | rw [c22b0] | (simp only [i64_w, i32_w]; rw [c22b0]) | skip)
           have hm6_0 := Aside0.mk trivial
          case' n7_ =>
           rw [if_neg c22] at H
           have c22b0 : ((t223.length : Int) == 0) = false := beq_eq_false_iff_ne.mpr c22
           have c22b1 : ((t223.length : Int) != 0) = true := bne_iff_ne.mpr c22
           have c22b2 : ¬ (t223 = []) := fun h_ => c22 (by rw [h_]; rfl)
           (first | rw [c22b0] | (simp only [i64_w, i32_w]; rw [c22b0]) | skip)
           refine Or.elim (Classical.em ((t223.length : Int) = (t227.length : Int))) (fun c24 => ?p8_) (fun c24 => ?n8_)
           case' p8_ =>
            rw [if_pos c24] at H
            have c24b0 : ((t223.length : Int) == (t227.length : Int)) = true := beq_iff_eq.mpr c24
            have c24b1 : ((t223.length : Int) != (t227.length : Int)) = false := bne_eq_false_iff_eq.mpr c24
            have c24b2 : (t223.length == t227.length) = true := by first | simpa using c24 | (simp at c24 ⊢; omega)
            clear c24
            refine Or.elim (Classical.em (0 < (t223.length : Int))) (fun c25 => ?p9_) (fun c25 => ?n9_)
            case' p9_ =>
             rw [if_pos c25] at H
             have c25b0 : decide (0 < (t223.length : Int)) = true := decide_eq_true c25
             have c25b1 : decide (0 < t223.length) = true := decide_eq_true (by omega)
             clear c25
             refine Or.elim (Classical.em ((rdOf ByteArray.empty t223 0).toList = a2.toList)) (fun c26 => ?p10_) (fun c26 => ?n10_)
             case' p10_ =>
              rw [if_pos c26] at H
              have c26b0 : ((rdOf ByteArray.empty t223 0).toList == a2.toList) = true := beq_iff_eq.mpr c26
              have c26b1 : ((rdOf ByteArray.empty t223 0).toList != a2.toList) = false := bne_eq_false_iff_eq.mpr c26
              clear c26
              obtain ⟨ji27, hji27⟩ : ∃ j_ : Int, (wrap64 ((t223.length : Int) - 1)) = j_ := ⟨_, rfl⟩
              replace H : (if 0 ≤ (ji27) then (if (ji27) < (t223.length : Int) then (skywaykeep1_ChartBetween.j1 kj8 t223 t227 ((rdOf ByteArray.empty t223 (ji27)).toList != a3.toList)) else (none)) else (none)) = some r := by first | (rw [hji27] at H; exact H) | (simp only [hji27] at H ⊢; exact H)
              have hji27w : (IntKind.i64.wrap ((t223.length : Int) - 1)) = ji27 := (i64_w _).trans hji27
              refine Or.elim (Classical.em (0 ≤ (ji27))) (fun c28 => ?p11_) (fun c28 => ?n11_)
              case' p11_ =>
               rw [if_pos c28] at H
               have c28b0 : decide (0 ≤ (ji27)) = true := decide_eq_true c28
               clear c28
               refine Or.elim (Classical.em ((ji27) < (t223.length : Int))) (fun c29 => ?p12_) (fun c29 => ?n12_)
               case' p12_ =>
                rw [if_pos c29] at H
                have c29b0 : decide ((ji27) < (t223.length : Int)) = true := decide_eq_true c29
                clear c29
                have hm6_1 := Aside0.mk trivial
               case' n12_ =>
                rw [if_neg c29] at H
                exact absurd H (by simp)
              case' n11_ =>
               rw [if_neg c28] at H
               exact absurd H (by simp)
             case' n10_ =>
              rw [if_neg c26] at H
              have c26b0 : ((rdOf ByteArray.empty t223 0).toList == a2.toList) = false := beq_eq_false_iff_ne.mpr c26
              have c26b1 : ((rdOf ByteArray.empty t223 0).toList != a2.toList) = true := bne_iff_ne.mpr c26
              have hm6_2 := Aside0.mk trivial
            case' n9_ =>
             rw [if_neg c25] at H
             exact absurd H (by simp)
           case' n8_ =>
            rw [if_neg c24] at H
            have c24b0 : ((t223.length : Int) == (t227.length : Int)) = false := beq_eq_false_iff_ne.mpr c24
            have c24b1 : ((t223.length : Int) != (t227.length : Int)) = true := bne_iff_ne.mpr c24
            have c24b2 : (t223.length == t227.length) = false := by first | simpa using c24 | (simp at c24 ⊢; omega)
            have hm6_3 := Aside0.mk trivial
          all_goals
           have H' := Aside0.mk H
           clear H
           obtain ⟨Aozd1, cozd1, eozd1⟩ := Kd.R_slice HO_9.out
           subst eozd1
           first
            | clear hm6_0
              go_wp2
              repeat (go_quiet (fail); try go_wp2)
              go_meet
              case rel => exact ⟨_, (true), (by first | rfl | (simp; done) | (simp [*]; done)), H', ⟨by have := HJ8.out; first | omega | exact Nat.le_refl _⟩, ⟨by (with_reducible repeat (first | apply Kd.R_alloc | apply Kd.R_drewN | apply Kd.R_drew)); exact HO_9.out⟩, ⟨by (with_reducible repeat (first | apply Kd.R_alloc | apply Kd.R_drewN | apply Kd.R_drew)); exact HO_11.out⟩, ⟨by (with_reducible repeat (first | refine blk_drewN ?_ _ | refine blk_drew ?_ | refine blk_alloc ?_ _)); exact BK221.out⟩, ⟨by repeat (first | (with_reducible first | exact HB.out | apply below_alloc | apply pw_below_drewN | apply below_drew1 | refine below_set ?_ GE221.out) | exact HB.out)⟩⟩
            | (first | (have _hm := hm6_1) | (have _hm := hm6_2) | (have _hm := hm6_3))
              obtain ⟨Aozd2, cozd2, eozd2⟩ := Kd.R_slice HO_11.out
              subst eozd2
              first
               | (first | (have _hm := hm6_1) | (have _hm := hm6_2))
                 have p231 : 0 ≤ (0 : Int) := (by omega)
                 have q231 : 0 < (t223.length : Int) := of_decide_eq_true (by first | (with_reducible assumption) | assumption)
                 obtain ⟨ad231, e231, hx231_0⟩ := Kd.at_string (Kd.R_reads' HO_9.out).2.2 0 p231 q231
                 cases e231
                 have qi231 : (0 < t223.length) = True := eq_true (by omega)
                 (try rw [show ((0 : Int)).toNat = 0 from rfl] at hx231_0)
                 (try rw [Addr.add_zero'] at hx231_0)
                 replace p231 := eq_true p231
                 replace q231 := eq_true q231
                 first
                  | clear hm6_1
                    have p232 : 0 ≤ ((ji27) : Int) := of_decide_eq_true (by first | (with_reducible assumption) | assumption)
                    have q232 : (ji27) < (t223.length : Int) := of_decide_eq_true (by first | (with_reducible assumption) | assumption)
                    obtain ⟨ad232, e232, hx232_0⟩ := Kd.at_string (Kd.R_reads' HO_9.out).2.2 (ji27) p232 q232
                    obtain rfl : ad231 = ad232 := (by injection e232)
                    replace p232 := eq_true p232
                    replace q232 := eq_true q232
                    go_wp2
                    repeat (go_quiet (fail); try go_wp2)
                    go_meet
                    case rel => exact ⟨_, (((rdOf ByteArray.empty t223 (ji27)).toList != a3.toList)), (by first | rfl | (simp; done) | (simp only [← hji27] <;> (first | rfl | simp)) | (simp [*]; done)), H', ⟨by have := HJ8.out; first | omega | exact Nat.le_refl _⟩, ⟨by (with_reducible repeat (first | apply Kd.R_alloc | apply Kd.R_drewN | apply Kd.R_drew)); exact HO_9.out⟩, ⟨by (with_reducible repeat (first | apply Kd.R_alloc | apply Kd.R_drewN | apply Kd.R_drew)); exact HO_11.out⟩, ⟨by (with_reducible repeat (first | refine blk_drewN ?_ _ | refine blk_drew ?_ | refine blk_alloc ?_ _)); exact BK221.out⟩, ⟨by repeat (first | (with_reducible first | exact HB.out | apply below_alloc | apply pw_below_drewN | apply below_drew1 | refine below_set ?_ GE221.out) | exact HB.out)⟩⟩
                  | clear hm6_2
                    go_wp2
                    repeat (go_quiet (fail); try go_wp2)
                    go_meet
                    case rel => exact ⟨_, (true), (by first | rfl | (simp; done) | (simp [*]; done)), H', ⟨by have := HJ8.out; first | omega | exact Nat.le_refl _⟩, ⟨by (with_reducible repeat (first | apply Kd.R_alloc | apply Kd.R_drewN | apply Kd.R_drew)); exact HO_9.out⟩, ⟨by (with_reducible repeat (first | apply Kd.R_alloc | apply Kd.R_drewN | apply Kd.R_drew)); exact HO_11.out⟩, ⟨by (with_reducible repeat (first | refine blk_drewN ?_ _ | refine blk_drew ?_ | refine blk_alloc ?_ _)); exact BK221.out⟩, ⟨by repeat (first | (with_reducible first | exact HB.out | apply below_alloc | apply pw_below_drewN | apply below_drew1 | refine below_set ?_ GE221.out) | exact HB.out)⟩⟩
               | clear hm6_3
                 go_wp2
                 repeat (go_quiet (fail); try go_wp2)
                 go_meet
                 case rel => exact ⟨_, (true), (by first | rfl | (simp; done) | (simp [*]; done)), H', ⟨by have := HJ8.out; first | omega | exact Nat.le_refl _⟩, ⟨by (with_reducible repeat (first | apply Kd.R_alloc | apply Kd.R_drewN | apply Kd.R_drew)); exact HO_9.out⟩, ⟨by (with_reducible repeat (first | apply Kd.R_alloc | apply Kd.R_drewN | apply Kd.R_drew)); exact HO_11.out⟩, ⟨by (with_reducible repeat (first | refine blk_drewN ?_ _ | refine blk_drew ?_ | refine blk_alloc ?_ _)); exact BK221.out⟩, ⟨by repeat (first | (with_reducible first | exact HB.out | apply below_alloc | apply pw_below_drewN | apply below_drew1 | refine below_set ?_ GE221.out) | exact HB.out)⟩⟩
         case rest =>
          clear HC21
          (try clear c1); (try clear p1); (try clear c2); (try clear p2); (try clear q2); (try clear hx2); (try clear qi2); (try clear c3); (try clear c6); (try clear p6); (try clear c16); (try clear c16b0); (try clear c16b1); (try clear c17); (try clear c18); (try clear c18b0); (try clear c18b1); (try clear c22); (try clear c22b0); (try clear c22b1); (try clear c22b2); (try clear p23); (try clear q23); (try clear hx23); (try clear qi23); (try clear c24); (try clear c24b0); (try clear c24b1); (try clear c24b2); (try clear c25); (try clear c25b0); (try clear c25b1); (try clear c26); (try clear c26b0); (try clear c26b1); (try clear c28); (try clear c28b0); (try clear c29); (try clear c29b0); (try clear hczx23111)
          (try clear hczx23112); (try clear hczx18f31); (try clear hczx18f32); (try clear hfzx23111); (try clear hfzx23112); (try clear hfzx18f31); (try clear hfzx18f32); (try clear hx231_0); (try clear hx232_0); (try clear p1); (try clear p2); (try clear p231); (try clear p232); (try clear q231); (try clear q232)
          obtain ⟨kq, x75_20, rfl, HA, HJ20, HO_9, HO_11, BK221, HB⟩ := hcut
          cases kq with
          | zero => exact absurd HA.out (by simp [skywaykeep1_ChartBetween.j1])
          | succ kj20 =>
           have H := HA.out
           clear HA
           simp only [skywaykeep1_ChartBetween.j1] at H
           by_cases c36 : x75_20 = true
           · subst c36
             have H1 : (some false) = some r := by rw [if_pos rfl] at H; exact H
             clear H
             have H := H1
             clear H1
             obtain rfl := Option.some.inj H
             go_wp2
             repeat (go_quiet (fail); try go_wp2)
             go_ret
             exact ⟨by first | rfl | (simp [errW_none, errW_some] <;> rfl) | (simp [*, errW_none, errW_some] <;> rfl), by repeat (first | (with_reducible first | exact HB.out | apply below_alloc | apply pw_below_drewN | apply below_drew1 | refine below_set ?_ GE221.out) | exact HB.out)⟩
           · replace c36 := Bool.eq_false_iff.mpr c36
             subst c36
             have H1 : (skywaykeep1_ChartBetween.l0 kj20 t223 t227 (t223.length : Int) 0) = some r := by rw [if_neg (show ¬ (false = true) by decide)] at H; exact H
             clear H
             have H := H1
             clear H1
             have H' := Aside0.mk H
             clear H
             obtain ⟨Aoze1, coze1, eoze1⟩ := Kd.R_slice HO_9.out
             subst eoze1
             go_wp2
             repeat (go_quiet (fail); try go_wp2)
             go_loopg [78] kj20 (fun kq v78 w' => ∃ (x78_3 : Int), v78 = .int .i64 x78_3 ∧ Aside0 (skywaykeep1_ChartBetween.l0 kq t223 t227 (t223.length : Int) x78_3 = some r) ∧ Aside0 (kq ≤ kj20) ∧ Aside0 (Kd.R Kd.string 9 w' w.heap.size (fun k_ => some k_ ≠ (v228 : Value).ownBlock) (.slice Aoze1 t223.length coze1) t223) ∧ Aside0 (Kd.R Kd.string 9 w' w.heap.size (fun k_ => some k_ ≠ ((.slice Aoze1 t223.length coze1) : Value).ownBlock) v228 t227) ∧ Aside0 (w'.heap[gb221]? = some (.cells #[(.slice A0_0 l0_0.length c0_0), (.slice A0_1 l0_1.length c0_1)] 25 (0, 0))) ∧ Aside0 (Below w.heap.size w w'))
             case atStart => exact ⟨(0), (by first | rfl | (simp; done) | (simp [*]; done)), H', ⟨Nat.le_refl _⟩, ⟨by (with_reducible repeat (first | apply Kd.R_alloc | apply Kd.R_drewN | apply Kd.R_drew)); exact HO_9.out⟩, ⟨by (with_reducible repeat (first | apply Kd.R_alloc | apply Kd.R_drewN | apply Kd.R_drew)); exact HO_11.out⟩, ⟨by (with_reducible repeat (first | refine blk_drewN ?_ _ | refine blk_drew ?_ | refine blk_alloc ?_ _)); exact BK221.out⟩, ⟨by repeat (first | (with_reducible first | exact HB.out | apply below_alloc | apply pw_below_drewN | apply below_drew1 | refine below_set ?_ GE221.out) | exact HB.out)⟩⟩
             case round =>
              clear H'
              (try clear c1); (try clear p1); (try clear c2); (try clear p2); (try clear q2); (try clear hx2); (try clear qi2); (try clear c3); (try clear c6); (try clear p6); (try clear c16); (try clear c16b0); (try clear c16b1); (try clear c17); (try clear c18); (try clear c18b0); (try clear c18b1); (try clear c22); (try clear c22b0); (try clear c22b1); (try clear c22b2); (try clear p23); (try clear q23); (try clear hx23); (try clear qi23); (try clear c24); (try clear c24b0); (try clear c24b1); (try clear c24b2); (try clear c25); (try clear c25b0); (try clear c25b1); (try clear c26); (try clear c26b0); (try clear c26b1); (try clear c28); (try clear c28b0); (try clear c29); (try clear c29b0); (try clear c36)
              (try clear hczx23111); (try clear hczx23112); (try clear hczx18f31); (try clear hczx18f32); (try clear hfzx23111); (try clear hfzx23112); (try clear hfzx18f31); (try clear hfzx18f32); (try clear hx231_0); (try clear hx232_0); (try clear p1); (try clear p2); (try clear p23); (try clear p231); (try clear p232); (try clear p6); (try clear q2); (try clear q23); (try clear q231); (try clear q232)
              obtain ⟨x78_3, rfl, HA, HK3, HO_9, HO_11, BK221, HB⟩ := hrel
              cases gk with
              | zero => exact absurd HA.out (by simp [skywaykeep1_ChartBetween.l0])
              | succ k3 =>
               have H := HA.out
               clear HA
               simp only [skywaykeep1_ChartBetween.l0] at H
               refine Or.elim (Classical.em (x78_3 < (t223.length : Int))) (fun c38 => ?p14_) (fun c38 => ?n14_)
               case' p14_ =>
                rw [if_pos c38] at H
                have c38b0 : decide (x78_3 < (t223.length : Int)) = true := decide_eq_true c38
                clear c38
                refine Or.elim (Classical.em (0 ≤ x78_3)) (fun c39 => ?p15_) (fun c39 => ?n15_)
                case' p15_ =>
                 rw [if_pos c39] at H
                 have c39b0 : decide (0 ≤ x78_3) = true := decide_eq_true c39
                 clear c39
                 refine Or.elim (Classical.em (x78_3 < (t223.length : Int))) (fun c40 => ?p16_) (fun c40 => ?n16_)
                 case' p16_ =>
                  rw [if_pos c40] at H
                  have c40b0 : decide (x78_3 < (t223.length : Int)) = true := decide_eq_true c40
                  clear c40
                  obtain ⟨ji41, hji41⟩ : ∃ j_ : Int, (wrap64 ((wrap64 ((t227.length : Int) - 1)) - x78_3)) = j_ := ⟨_, rfl⟩
                  replace H : (if 0 ≤ (ji41) then (if (ji41) < (t227.length : Int) then (if (rdOf ByteArray.empty t223 x78_3).toList = (rdOf ByteArray.empty t227 (ji41)).toList then (skywaykeep1_ChartBetween.l0 k3 t223 t227 (t223.length : Int) (wrap64 (x78_3 + 1))) else (some false)) else (none)) else (none)) = some r := by first | (rw [hji41] at H; exact H) | (simp only [hji41] at H ⊢; exact H)
                  have hji41w : (IntKind.i64.wrap ((wrap64 ((t227.length : Int) - 1)) - x78_3)) = ji41 := (i64_w _).trans hji41
                  refine Or.elim (Classical.em (0 ≤ (ji41))) (fun c42 => ?p17_) (fun c42 => ?n17_)
                  case' p17_ =>
                   rw [if_pos c42] at H
                   have c42b0 : decide (0 ≤ (ji41)) = true := decide_eq_true c42
                   clear c42
                   refine Or.elim (Classical.em ((ji41) < (t227.length : Int))) (fun c43 => ?p18_) (fun c43 => ?n18_)
                   case' p18_ =>
                    rw [if_pos c43] at H
                    have c43b0 : decide ((ji41) < (t227.length : Int)) = true := decide_eq_true c43
                    clear c43
                    refine Or.elim (Classical.em ((rdOf ByteArray.empty t223 x78_3).toList = (rdOf ByteArray.empty t227 (ji41)).toList)) (fun c44 => ?p19_) (fun c44 => ?n19_)
                    case' p19_ =>
                     rw [if_pos c44] at H
                     have c44b0 : ((rdOf ByteArray.empty t223 x78_3).toList == (rdOf ByteArray.empty t227 (ji41)).toList) = true := beq_iff_eq.mpr c44
                     have c44b1 : ((rdOf ByteArray.empty t223 x78_3).toList != (rdOf ByteArray.empty t227 (ji41)).toList) = false := bne_eq_false_iff_eq.mpr c44
                     clear c44
                     have hm13_0 := Aside0.mk trivial
                    case' n19_ =>
                     rw [if_neg c44] at H
                     have c44b0 : ((rdOf ByteArray.empty t223 x78_3).toList == (rdOf ByteArray.empty t227 (ji41)).toList) = false := beq_eq_false_iff_ne.mpr c44
                     have c44b1 : ((rdOf ByteArray.empty t223 x78_3).toList != (rdOf ByteArray.empty t227 (ji41)).toList) = true := bne_iff_ne.mpr c44
                     have hm13_1 := Aside0.mk trivial
                   case' n18_ =>
                    rw [if_neg c43] at H
                    exact absurd H (by simp)
                  case' n17_ =>
                   rw [if_neg c42] at H
                   exact absurd H (by simp)
                 case' n16_ =>
                  rw [if_neg c40] at H
                  exact absurd H (by simp)
                case' n15_ =>
                 rw [if_neg c39] at H
                 exact absurd H (by simp)
               case' n14_ =>
                rw [if_neg c38] at H
                have c38b0 : decide (x78_3 < (t223.length : Int)) = false := decide_eq_false c38
                clear c38
                have hm13_2 := Aside0.mk trivial
               all_goals
                first
                 | clear hm13_0
                   have H' := Aside0.mk H
                   clear H
                   have p233 : 0 ≤ (x78_3 : Int) := of_decide_eq_true (by first | (with_reducible assumption) | assumption)
                   have q233 : x78_3 < (t223.length : Int) := of_decide_eq_true (by first | (with_reducible assumption) | assumption)
                   obtain ⟨ad233, e233, hx233_0⟩ := Kd.at_string (Kd.R_reads' HO_9.out).2.2 x78_3 p233 q233
                   cases e233
                   replace p233 := eq_true p233
                   replace q233 := eq_true q233
                   obtain ⟨Aozg1, cozg1, eozg1⟩ := Kd.R_slice HO_11.out
                   subst eozg1
                   have p234 : 0 ≤ ((ji41) : Int) := of_decide_eq_true (by first | (with_reducible assumption) | assumption)
                   have q234 : (ji41) < (t227.length : Int) := of_decide_eq_true (by first | (with_reducible assumption) | assumption)
                   obtain ⟨ad234, e234, hx234_0⟩ := Kd.at_string (Kd.R_reads' HO_11.out).2.2 (ji41) p234 q234
                   cases e234
                   replace p234 := eq_true p234
                   replace q234 := eq_true q234
                   go_wp2
                   repeat (go_quiet (fail); try go_wp2)
                   first | go_roundg k3 | (subst hji41; go_roundg k3)
                   case measure => have := HJ8.out; have := HJ20.out; have := HK3.out; omega
                   case rel => exact ⟨(wrap64 (x78_3 + 1)), (by first | rfl | (simp; done) | (simp [*]; done)), H', ⟨by have := HJ8.out; have := HJ20.out; have := HK3.out; omega⟩, ⟨by (with_reducible repeat (first | apply Kd.R_alloc | apply Kd.R_drewN | apply Kd.R_drew)); exact HO_9.out⟩, ⟨by (with_reducible repeat (first | apply Kd.R_alloc | apply Kd.R_drewN | apply Kd.R_drew)); exact HO_11.out⟩, ⟨by (with_reducible repeat (first | refine blk_drewN ?_ _ | refine blk_drew ?_ | refine blk_alloc ?_ _)); exact BK221.out⟩, ⟨by repeat (first | (with_reducible first | exact HB.out | apply below_alloc | apply pw_below_drewN | apply below_drew1 | refine below_set ?_ GE221.out) | exact HB.out)⟩⟩
                 | (first | (have _hm := hm13_1) | (have _hm := hm13_2))
                   obtain rfl := Option.some.inj H
                   first
                    | clear hm13_1
                      have p233 : 0 ≤ (x78_3 : Int) := of_decide_eq_true (by first | (with_reducible assumption) | assumption)
                      have q233 : x78_3 < (t223.length : Int) := of_decide_eq_true (by first | (with_reducible assumption) | assumption)
                      obtain ⟨ad233, e233, hx233_0⟩ := Kd.at_string (Kd.R_reads' HO_9.out).2.2 x78_3 p233 q233
                      cases e233
                      replace p233 := eq_true p233
                      replace q233 := eq_true q233
                      obtain ⟨Aozg1, cozg1, eozg1⟩ := Kd.R_slice HO_11.out
                      subst eozg1
                      have p234 : 0 ≤ ((ji41) : Int) := of_decide_eq_true (by first | (with_reducible assumption) | assumption)
                      have q234 : (ji41) < (t227.length : Int) := of_decide_eq_true (by first | (with_reducible assumption) | assumption)
                      obtain ⟨ad234, e234, hx234_0⟩ := Kd.at_string (Kd.R_reads' HO_11.out).2.2 (ji41) p234 q234
                      cases e234
                      replace p234 := eq_true p234
                      replace q234 := eq_true q234
                      go_wp2
                      repeat (go_quiet (fail); try go_wp2)
                      go_ret
                      exact ⟨by first | rfl | (simp [errW_none, errW_some] <;> rfl) | (simp only [← hji41]; first | rfl | (simp [errW_none, errW_some] <;> rfl)) | (simp [*, errW_none, errW_some] <;> rfl), by repeat (first | (with_reducible first | exact HB.out | apply below_alloc | apply pw_below_drewN | apply below_drew1 | refine below_set ?_ GE221.out) | exact HB.out)⟩
                    | clear hm13_2
                      go_wp2
                      repeat (go_quiet (fail); try go_wp2)
                      go_ret
                      exact ⟨by first | rfl | (simp [errW_none, errW_some] <;> rfl) | (simp [*, errW_none, errW_some] <;> rfl), by repeat (first | (with_reducible first | exact HB.out | apply below_alloc | apply pw_below_drewN | apply below_drew1 | refine below_set ?_ GE221.out) | exact HB.out)⟩
 · replace c6 := Bool.eq_false_iff.mpr c6
   subst c6
   have H1 : (some false) = some r := by rw [if_neg (show ¬ (false = true) by decide)] at H; exact H
   clear H
   have H := H1
   clear H1
   obtain rfl := Option.some.inj H
   go_enter Try.func3, Try.ntmps3
   go_wp2_with (first | ((with_reducible refine gate_dst (N := 4) rfl ?_); (try (refine gate_guard (by rfl) ?_; dsimp only)); refine box_event ?hg (N := 4) ?hd (cs := #[.slice A0_0 l0_0.length c0_0, .slice A0_1 l0_1.length c0_1]) (t := 25) ?hr ?_; (case hd => rfl); (case hg => rfl); (case hr => first | (go_simp; done) | (go_simp; rfl)); intro gb221 hg wxd67e1 hbox hb; have n0_ := Aside0.mk (below_step (by repeat (first | (with_reducible first | exact HB.out | apply below_alloc | apply pw_below_drewN | apply below_drew1) | exact HB.out)) hb); have n1_ := Aside0.mk (hbox); have n2_ := Aside0.mk ((by rw [hg]; exact (below_size (by repeat (first | (with_reducible first | exact HB.out | apply below_alloc | apply pw_below_drewN | apply below_drew1) | exact HB.out))) : w.heap.size ≤ gb221)); have n3_ := Aside0.mk ((by rw [hg]; exact (below_size (by repeat (first | (with_reducible first | exact HB.out | apply below_alloc | apply pw_below_drewN | apply below_drew1) | exact HB.out))) : w.heap.size ≤ gb221)); clear HB; have HB := n0_; have BK221 := n1_; have GW221 := n2_; have GE221 := n3_; clear n0_ n1_ n2_ n3_; clear hb hbox hg) | (go_at_call 15; (with_reducible refine (skywaykeep1_chartWorks.calls k  false _ A5.out).mono ?_); rintro e wx772b1 ⟨rfl, hb⟩; have n0_ := Aside0.mk (blk_below (g := gb221) (o := .cells #[.slice A0_0 l0_0.length c0_0, .slice A0_1 l0_1.length c0_1] 25 (0, 0)) (by (with_reducible repeat (first | refine blk_drewN ?_ _ | refine blk_drew ?_ | refine blk_alloc ?_ _)); exact BK221.out) hb); have n1_ := Aside0.mk (below_step (by repeat (first | (with_reducible first | exact HB.out | apply below_alloc | apply pw_below_drewN | apply below_drew1 | refine below_set ?_ GE221.out) | exact HB.out)) hb); clear BK221; clear HB; have BK221 := n0_; have HB := n1_; clear n0_ n1_; (try clear hb); (try clear hb2); (try clear hk); (try clear hi)))
   repeat (go_quiet (first | ((with_reducible refine gate_dst (N := 4) rfl ?_); (try (refine gate_guard (by rfl) ?_; dsimp only)); refine box_event ?hg (N := 4) ?hd (cs := #[.slice A0_0 l0_0.length c0_0, .slice A0_1 l0_1.length c0_1]) (t := 25) ?hr ?_; (case hd => rfl); (case hg => rfl); (case hr => first | (go_simp; done) | (go_simp; rfl)); intro gb221 hg wxd67e1 hbox hb; have n0_ := Aside0.mk (below_step (by repeat (first | (with_reducible first | exact HB.out | apply below_alloc | apply pw_below_drewN | apply below_drew1) | exact HB.out)) hb); have n1_ := Aside0.mk (hbox); have n2_ := Aside0.mk ((by rw [hg]; exact (below_size (by repeat (first | (with_reducible first | exact HB.out | apply below_alloc | apply pw_below_drewN | apply below_drew1) | exact HB.out))) : w.heap.size ≤ gb221)); have n3_ := Aside0.mk ((by rw [hg]; exact (below_size (by repeat (first | (with_reducible first | exact HB.out | apply below_alloc | apply pw_below_drewN | apply below_drew1) | exact HB.out))) : w.heap.size ≤ gb221)); clear HB; have HB := n0_; have BK221 := n1_; have GW221 := n2_; have GE221 := n3_; clear n0_ n1_ n2_ n3_; clear hb hbox hg) | (go_at_call 15; (with_reducible refine (skywaykeep1_chartWorks.calls k  false _ A5.out).mono ?_); rintro e wx772b1 ⟨rfl, hb⟩; have n0_ := Aside0.mk (blk_below (g := gb221) (o := .cells #[.slice A0_0 l0_0.length c0_0, .slice A0_1 l0_1.length c0_1] 25 (0, 0)) (by (with_reducible repeat (first | refine blk_drewN ?_ _ | refine blk_drew ?_ | refine blk_alloc ?_ _)); exact BK221.out) hb); have n1_ := Aside0.mk (below_step (by repeat (first | (with_reducible first | exact HB.out | apply below_alloc | apply pw_below_drewN | apply below_drew1 | refine below_set ?_ GE221.out) | exact HB.out)) hb); clear BK221; clear HB; have BK221 := n0_; have HB := n1_; clear n0_ n1_; (try clear hb); (try clear hb2); (try clear hk); (try clear hi))); try go_wp2_with (first | ((with_reducible refine gate_dst (N := 4) rfl ?_); (try (refine gate_guard (by rfl) ?_; dsimp only)); refine box_event ?hg (N := 4) ?hd (cs := #[.slice A0_0 l0_0.length c0_0, .slice A0_1 l0_1.length c0_1]) (t := 25) ?hr ?_; (case hd => rfl); (case hg => rfl); (case hr => first | (go_simp; done) | (go_simp; rfl)); intro gb221 hg wxd67e1 hbox hb; have n0_ := Aside0.mk (below_step (by repeat (first | (with_reducible first | exact HB.out | apply below_alloc | apply pw_below_drewN | apply below_drew1) | exact HB.out)) hb); have n1_ := Aside0.mk (hbox); have n2_ := Aside0.mk ((by rw [hg]; exact (below_size (by repeat (first | (with_reducible first | exact HB.out | apply below_alloc | apply pw_below_drewN | apply below_drew1) | exact HB.out))) : w.heap.size ≤ gb221)); have n3_ := Aside0.mk ((by rw [hg]; exact (below_size (by repeat (first | (with_reducible first | exact HB.out | apply below_alloc | apply pw_below_drewN | apply below_drew1) | exact HB.out))) : w.heap.size ≤ gb221)); clear HB; have HB := n0_; have BK221 := n1_; have GW221 := n2_; have GE221 := n3_; clear n0_ n1_ n2_ n3_; clear hb hbox hg) | (go_at_call 15; (with_reducible refine (skywaykeep1_chartWorks.calls k  false _ A5.out).mono ?_); rintro e wx772b1 ⟨rfl, hb⟩; have n0_ := Aside0.mk (blk_below (g := gb221) (o := .cells #[.slice A0_0 l0_0.length c0_0, .slice A0_1 l0_1.length c0_1] 25 (0, 0)) (by (with_reducible repeat (first | refine blk_drewN ?_ _ | refine blk_drew ?_ | refine blk_alloc ?_ _)); exact BK221.out) hb); have n1_ := Aside0.mk (below_step (by repeat (first | (with_reducible first | exact HB.out | apply below_alloc | apply pw_below_drewN | apply below_drew1 | refine below_set ?_ GE221.out) | exact HB.out)) hb); clear BK221; clear HB; have BK221 := n0_; have HB := n1_; clear n0_ n1_; (try clear hb); (try clear hb2); (try clear hk); (try clear hi))))
   go_ret
   exact ⟨by first | rfl | (simp [errW_none, errW_some] <;> rfl) | (simp [*, errW_none, errW_some] <;> rfl), by repeat (first | (with_reducible first | exact HB.out | apply below_alloc | apply pw_below_drewN | apply below_drew1 | refine below_set ?_ GE221.out) | exact HB.out)⟩

/-- What is told of a value of struct type 36 that came in. -/
def good36 (x : S36) : Prop := ((Lit.int .i64 x.f0).wf = true) ∧ (Lit.int .i64 x.f1).wf = true
/-- What is told of a value of struct type 40 that came in. -/
def good40 (x : S40) : Prop := (x.f0.size ≤ 140737488351232) ∧ good36 x.f1
/-- What is told of a value of struct type 48 that came in. -/
def good48 (x : S48) : Prop := (x.f0.size ≤ 140737488351232) ∧ x.f1.length * 16 ≤ 140737488351232 ∧ ∀ y0 ∈ x.f1, y0.size ≤ 140737488351232
/-- What is told of a value of struct type 25 that came in. -/
def good25 (x : S25) : Prop := (x.f0.length * 32 ≤ 140737488351232 ∧ ∀ y0 ∈ x.f0, good40 y0) ∧ x.f1.length * 40 ≤ 140737488351232 ∧ ∀ y0 ∈ x.f1, good48 y0
/-- THE ONE PURE STATEMENT of skywaykeep1_ChartBetween. -/
def skywaykeep1_ChartBetween.Pure : Prop := ∀ (l0_0 : List (S40)) (l0_1 : List (S48)) (a1 : ByteArray) (a2 : ByteArray) (a3 : ByteArray), (l0_0.length * 32 ≤ 140737488351232 ∧ ∀ y0 ∈ l0_0, good40 y0) → (l0_1.length * 40 ≤ 140737488351232 ∧ ∀ y0 ∈ l0_1, good48 y0) → (a1.size ≤ 140737488351232) → (a2.size ≤ 140737488351232) → (a3.size ≤ 140737488351232) → ∃ k, skywaykeep1_ChartBetween.f k l0_0 l0_1 a1 a2 a3 = some true

end Go.Proofs.Ytbpbpojnfhhbjaa.PChartBetween
