/- Made by a program of this session (wip/tools/myprint.py, over the kit's printer): that the Go functions answer as the Lean functions printed beside them. -/
import Derived.Test.YtbpbpojnfhhbjaaPChartLinksx0
import Derived.Test.YtbpbpojnfhhbjaaPChartLinksx2
import Derived.Test.YtbpbpojnfhhbjaaPChartLinksx4
import Derived.Test.YtbpbpojnfhhbjaaPChartLinksx7
import Derived.Test.YtbpbpojnfhhbjaaPChartLinksx8
namespace Go.Proofs.Ytbpbpojnfhhbjaa.PChartLinks
open Go.RowKit Go.Proofs.YtbpbpojnfhhbjaaW.PrintWords Go.Proofs.YtbpbpojnfhhbjaaW.PrintLast Go.Proofs.YtbpbpojnfhhbjaaW.PrintMore
attribute [local go_sem] max2_int min2_int max_two min_two max_three min_three max_four min_four   -- for this text's walks alone
set_option linter.unusedVariables false
set_option linter.unusedSimpArgs false

/-! ### chart_Links: function 21 -/
def chart_Links.l0 : Nat → ByteArray → List ByteArray → List (S48) → Int → Int → Option (List ByteArray × Int)
  | 0, _, _, _, _, _ => none
  | k + 1, x1, x7, x21, x22, x23 => if x23 < x22 then (if 0 ≤ x23 then (if x23 < (x21.length : Int) then ((slices_Index_string_string.f k ((rd_T48 x21 x23).f1) x1).bind fun t230 => (if t230 < 0 then (chart_Links.l0 k x1 x7 x21 x22 (wrap64 (x23 + 1))) else (if t230 > 0 then (if 0 ≤ (wrap64 (t230 - 1)) then (if (wrap64 (t230 - 1)) < (((rd_T48 x21 x23).f1).length : Int) then (if x7.length < 8796093022208 then ((some (x7 ++ [rdOf ByteArray.empty ((rd_T48 x21 x23).f1) (wrap64 (t230 - 1))] : List ByteArray)).bind fun y232 => (if (wrap64 (t230 + 1)) < (((rd_T48 x21 x23).f1).length : Int) then (if 0 ≤ (wrap64 (t230 + 1)) then (if y232.length < 8796093022208 then (chart_Links.l0 k x1 (y232 ++ [rdOf ByteArray.empty ((rd_T48 x21 x23).f1) (wrap64 (t230 + 1))]) x21 x22 (wrap64 (x23 + 1))) else (none)) else (none)) else (chart_Links.l0 k x1 y232 x21 x22 (wrap64 (x23 + 1))))) else (none)) else (none)) else (none)) else (if (wrap64 (t230 + 1)) < (((rd_T48 x21 x23).f1).length : Int) then (if 0 ≤ (wrap64 (t230 + 1)) then (if x7.length < 8796093022208 then (chart_Links.l0 k x1 (x7 ++ [rdOf ByteArray.empty ((rd_T48 x21 x23).f1) (wrap64 (t230 + 1))]) x21 x22 (wrap64 (x23 + 1))) else (none)) else (none)) else (chart_Links.l0 k x1 x7 x21 x22 (wrap64 (x23 + 1))))))) else (none)) else (none)) else ((slices_Sort_string_string.f x7).bind fun t224 => ((slices_Compact_string_string.f t224).bind fun t225 => (some (t225, 0))))
def chart_Links.f (k : Nat) (l0_0 : List (S40)) (l0_1 : List (S48)) (a1 : ByteArray) : Option (List ByteArray × Int) := (chart_Check.f k l0_0 l0_1).bind fun t222 => (if t222 = 0 then ((chart_find.f l0_0 l0_1 a1).bind fun t223 => (if t223 < 0 then (some (([] : List ByteArray), 6)) else (chart_Links.l0 k a1 ([] : List ByteArray) l0_1 (l0_1.length : Int) 0))) else (some (([] : List ByteArray), t222)))
theorem chart_Links.mono_l : ∀ k, (∀ y0 y1 y2 y3 y4, LeO (chart_Links.l0 k y0 y1 y2 y3 y4) (chart_Links.l0 (k + 1) y0 y1 y2 y3 y4))
  | 0 => fun _ _ _ _ _ r h => by simp [chart_Links.l0] at h
  | k + 1 => by
    have ih0 := chart_Links.mono_l k
    · intro y0 y1 y2 y3 y4
      unfold chart_Links.l0
      repeat' first
      | (with_reducible exact ih0 _ _ _ _ _)
      | (with_reducible exact chart_Check.mono _ _ _)
      | (with_reducible exact slices_Index_string_string.mono _ _ _)
      | (with_reducible exact LeO.refl _)
      | (with_reducible exact LeO.none _)
      | (with_reducible refine LeO.ite ?_ ?_)
      | (with_reducible refine LeO.bind ?_ (fun _ => ?_))
      | exact ih0 _ _ _ _ _
      | exact chart_Check.mono _ _ _
      | exact slices_Index_string_string.mono _ _ _
      | exact LeO.none _
      | refine LeO.ite ?_ ?_
      | refine LeO.bind ?_ (fun _ => ?_)
theorem chart_Links.mono : ∀ a0 a1 a2 k, LeO (chart_Links.f k a0 a1 a2) (chart_Links.f (k + 1) a0 a1 a2) := by
  intro a0 a1 a2 k
  have ih0 := chart_Links.mono_l k
  unfold chart_Links.f
  repeat' first
      | (with_reducible exact ih0 _ _ _ _ _)
      | (with_reducible exact chart_Check.mono _ _ _)
      | (with_reducible exact slices_Index_string_string.mono _ _ _)
      | (with_reducible exact LeO.refl _)
      | (with_reducible exact LeO.none _)
      | (with_reducible refine LeO.ite ?_ ?_)
      | (with_reducible refine LeO.bind ?_ (fun _ => ?_))
      | exact ih0 _ _ _ _ _
      | exact chart_Check.mono _ _ _
      | exact slices_Index_string_string.mono _ _ _
      | exact LeO.none _
      | refine LeO.ite ?_ ?_
      | refine LeO.bind ?_ (fun _ => ?_)
set_option maxHeartbeats 8000000 in
set_option maxRecDepth 100000 in
theorem chart_Links.calls (k : Nat) (A0_0 : Option Addr) (c0_0 : Nat) (l0_0 : List (S40)) (A0_1 : Option Addr) (c0_1 : Nat) (l0_1 : List (S48)) (a1 : ByteArray) (r1 : List ByteArray) (r2 : Int) (w : World) (hr0_0 : Kd.C k40 w A0_0 l0_0.length l0_0) (hc0_0 : l0_0.length ≤ c0_0) (hr0_1 : Kd.C k48 w A0_1 l0_1.length l0_1) (hc0_1 : l0_1.length ≤ c0_1) (h : chart_Links.f k l0_0 l0_1 a1 = some (r1, r2)) :
    Calls Try.prog 21 #[.agg #[.slice A0_0 l0_0.length c0_0, .slice A0_1 l0_1.length c0_1], .string a1] w fun e w' => ∃ v0_ : Value, e = .returned (.tuple #[v0_, .int .i64 r2]) ∧ Kd.R Kd.string 9 w' w.heap.size (fun _ => True) v0_ r1 ∧ Below w.heap.size w w' := by
 have hu25 := Try.underlying25
 have hu48 := Try.underlying48
 have HR0_0 := Aside0.mk hr0_0
 have HC0_0 := Aside0.mk hc0_0
 clear hr0_0 hc0_0
 have HR0_1 := Aside0.mk hr0_1
 have HC0_1 := Aside0.mk hc0_1
 clear hr0_1 hc0_1
 have HB := Aside0.mk (Below.refl w.heap.size w)
 have H : ((chart_Check.f k l0_0 l0_1).bind fun t222 => (if t222 = 0 then ((chart_find.f l0_0 l0_1 a1).bind fun t223 => (if t223 < 0 then (some (([] : List ByteArray), 6)) else (chart_Links.l0 k a1 ([] : List ByteArray) l0_1 (l0_1.length : Int) 0))) else (some (([] : List ByteArray), t222)))) = some (r1, r2) := h
 clear h
 replace H := Option.bind_eq_some_iff.mp H
 obtain ⟨t222, A30, H⟩ := H
 replace H : (if t222 = 0 then ((chart_find.f l0_0 l0_1 a1).bind fun t223 => (if t223 < 0 then (some (([] : List ByteArray), 6)) else (chart_Links.l0 k a1 ([] : List ByteArray) l0_1 (l0_1.length : Int) 0))) else (some (([] : List ByteArray), t222))) = some (r1, r2) := H
 have A3 := Aside0.mk A30
 clear A30
 refine Or.elim (Classical.em (t222 = 0)) (fun c4 => ?p2_) (fun c4 => ?n2_)
 case' p2_ =>
  rw [if_pos c4] at H
  have c4b0 : (t222 == 0) = true := beq_iff_eq.mpr c4
  have c4b1 : (t222 != 0) = false := bne_eq_false_iff_eq.mpr c4
  clear c4
  replace H := Option.bind_eq_some_iff.mp H
  obtain ⟨t223, A50, H⟩ := H
  replace H : (if t223 < 0 then (some (([] : List ByteArray), 6)) else (chart_Links.l0 k a1 ([] : List ByteArray) l0_1 (l0_1.length : Int) 0)) = some (r1, r2) := H
  have A5 := Aside0.mk A50
  clear A50
  refine Or.elim (Classical.em (t223 < 0)) (fun c6 => ?p3_) (fun c6 => ?n3_)
  case' p3_ =>
   rw [if_pos c6] at H
   have c6b0 : decide (t223 < 0) = true := decide_eq_true c6
   clear c6
   simp only [Option.some.injEq, Prod.mk.injEq] at H
   obtain ⟨rfl, rfl⟩ := H
   have hm1_0 := Aside0.mk trivial
  case' n3_ =>
   rw [if_neg c6] at H
   have c6b0 : decide (t223 < 0) = false := decide_eq_false c6
   clear c6
   have hm1_1 := Aside0.mk trivial
 case' n2_ =>
  rw [if_neg c4] at H
  have c4b0 : (t222 == 0) = false := beq_eq_false_iff_ne.mpr c4
  have c4b1 : (t222 != 0) = true := bne_iff_ne.mpr c4
  simp only [Option.some.injEq, Prod.mk.injEq] at H
  obtain ⟨rfl, rfl⟩ := H
  have hm1_0 := Aside0.mk trivial
 all_goals
  first
   | clear hm1_0
     go_enter Try.func21, Try.ntmps21
     go_wp2_with (first | ((with_reducible refine gate_dst (N := 2) rfl ?_); refine box_event ?hg (N := 2) ?hd (cs := #[.slice A0_0 l0_0.length c0_0, .slice A0_1 l0_1.length c0_1]) (t := 25) ?hr ?_; (case hd => rfl); (case hg => rfl); (case hr => first | (go_simp; done) | (go_simp; rfl)); intro gb221 hg wx1b1a1 hbox hb; have n0_ := Aside0.mk (below_step (by repeat (first | (with_reducible first | exact HB.out | apply below_alloc | apply pw_below_drewN | apply below_drew1) | exact HB.out)) hb); have n1_ := Aside0.mk (hbox); have n2_ := Aside0.mk ((by rw [hg]; exact (below_size (by repeat (first | (with_reducible first | exact HB.out | apply below_alloc | apply pw_below_drewN | apply below_drew1) | exact HB.out))) : w.heap.size ≤ gb221)); have n3_ := Aside0.mk ((by rw [hg]; exact (below_size (by repeat (first | (with_reducible first | exact HB.out | apply below_alloc | apply pw_below_drewN | apply below_drew1) | exact HB.out))) : w.heap.size ≤ gb221)); clear HB; have HB := n0_; have BK221 := n1_; have GW221 := n2_; have GE221 := n3_; clear n0_ n1_ n2_ n3_; clear hb hbox hg; have hczx1b1a1 : wx1b1a1.cell? ⟨gb221, 0, none⟩ = some (.slice A0_0 l0_0.length c0_0) := (blk_cell BK221.out 0).trans rfl; have hczx1b1a2 : wx1b1a1.cell? ⟨gb221, 1, none⟩ = some (.slice A0_1 l0_1.length c0_1) := (blk_cell BK221.out 1).trans rfl; have hfzx1b1a1 := blk_frozen BK221.out 0; have hfzx1b1a2 := blk_frozen BK221.out 1) | ((with_reducible refine gate_callee (f := 49) rfl ?_); refine goesL_ (some 12) rfl rfl Try.func49 (by kernel_rfl) rfl #[.agg #[.slice A0_0 l0_0.length c0_0, .slice A0_1 l0_1.length c0_1]] rfl (by (try simp only [List.map_toArray, List.map_cons, List.map_nil]); first | done | rfl | (simp only [List.length_drop, List.length_take]; rfl)) ?_; (with_reducible refine (chart_Check.calls k _ _ l0_0 _ _ l0_1 t222 _ ?side1 ?side2 ?side3 ?side4 A3.out).mono ?_); (case side1 => repeat (first | exact (Kd.C_below HR0_0.out HB.out) | (with_reducible refine Kd.C_alloc ?_ _) | (with_reducible refine Kd.C_drewN ?_ _) | (with_reducible refine Kd.C_drew ?_))); (case side2 => exact HC0_0.out); (case side3 => repeat (first | exact (Kd.C_below HR0_1.out HB.out) | (with_reducible refine Kd.C_alloc ?_ _) | (with_reducible refine Kd.C_drewN ?_ _) | (with_reducible refine Kd.C_drew ?_))); (case side4 => exact HC0_1.out); rintro e wx14561 ⟨rfl, hb⟩; refine ⟨_, rfl, ?_⟩; have n0_ := Aside0.mk (blk_below (g := gb221) (o := .cells #[.slice A0_0 l0_0.length c0_0, .slice A0_1 l0_1.length c0_1] 25 (0, 0)) (by (with_reducible repeat (first | refine blk_drewN ?_ _ | refine blk_drew ?_ | refine blk_alloc ?_ _)); exact BK221.out) hb); have n1_ := Aside0.mk (below_step (by repeat (first | (with_reducible first | exact HB.out | apply below_alloc | apply pw_below_drewN | apply below_drew1 | refine below_set ?_ GE221.out) | exact HB.out)) hb); clear BK221; clear HB; have BK221 := n0_; have HB := n1_; clear n0_ n1_; (try clear hb); (try clear hb2); (try clear hk); (try clear hi); have hczx14561 : wx14561.cell? ⟨gb221, 0, none⟩ = some (.slice A0_0 l0_0.length c0_0) := (blk_cell BK221.out 0).trans rfl; have hczx14562 : wx14561.cell? ⟨gb221, 1, none⟩ = some (.slice A0_1 l0_1.length c0_1) := (blk_cell BK221.out 1).trans rfl; have hfzx14561 := blk_frozen BK221.out 0; have hfzx14562 := blk_frozen BK221.out 1) | ((with_reducible refine gate_callee (f := 49) rfl ?_); refine goesL_ (some 12) rfl rfl Try.func49 (by kernel_rfl) rfl #[.agg #[.slice A0_0 l0_0.length c0_0, .slice A0_1 l0_1.length c0_1]] rfl (by (try simp only [List.map_toArray, List.map_cons, List.map_nil]); first | done | rfl | (simp only [List.length_drop, List.length_take]; rfl)) ?_; (with_reducible refine (chart_Check.calls k _ _ l0_0 _ _ l0_1 t222 _ ?side1 ?side2 ?side3 ?side4 A3.out).mono ?_); (case side1 => repeat (first | exact (Kd.C_below HR0_0.out HB.out) | (with_reducible refine Kd.C_alloc ?_ _) | (with_reducible refine Kd.C_drewN ?_ _) | (with_reducible refine Kd.C_drew ?_))); (case side2 => exact HC0_0.out); (case side3 => repeat (first | exact (Kd.C_below HR0_1.out HB.out) | (with_reducible refine Kd.C_alloc ?_ _) | (with_reducible refine Kd.C_drewN ?_ _) | (with_reducible refine Kd.C_drew ?_))); (case side4 => exact HC0_1.out); rintro e wx823f1 ⟨rfl, hb⟩; refine ⟨_, rfl, ?_⟩; have n0_ := Aside0.mk (blk_below (g := gb221) (o := .cells #[.slice A0_0 l0_0.length c0_0, .slice A0_1 l0_1.length c0_1] 25 (0, 0)) (by (with_reducible repeat (first | refine blk_drewN ?_ _ | refine blk_drew ?_ | refine blk_alloc ?_ _)); exact BK221.out) hb); have n1_ := Aside0.mk (below_step (by repeat (first | (with_reducible first | exact HB.out | apply below_alloc | apply pw_below_drewN | apply below_drew1 | refine below_set ?_ GE221.out) | exact HB.out)) hb); clear BK221; clear HB; have BK221 := n0_; have HB := n1_; clear n0_ n1_; (try clear hb); (try clear hb2); (try clear hk); (try clear hi)) | ((with_reducible refine gate_callee (f := 55) rfl ?_); refine goesL_ (some 18) rfl rfl Try.func55 (by kernel_rfl) rfl #[.agg #[.slice A0_0 l0_0.length c0_0, .slice A0_1 l0_1.length c0_1], .string a1] rfl (by (try simp only [List.map_toArray, List.map_cons, List.map_nil]); first | done | rfl | (simp only [List.length_drop, List.length_take]; rfl)) ?_; (with_reducible refine (chart_find.calls _ _ l0_0 _ _ l0_1 a1 t223 _ ?side1 ?side2 ?side3 ?side4 A5.out).mono ?_); (case side1 => repeat (first | exact (Kd.C_below HR0_0.out HB.out) | (with_reducible refine Kd.C_alloc ?_ _) | (with_reducible refine Kd.C_drewN ?_ _) | (with_reducible refine Kd.C_drew ?_))); (case side2 => exact HC0_0.out); (case side3 => repeat (first | exact (Kd.C_below HR0_1.out HB.out) | (with_reducible refine Kd.C_alloc ?_ _) | (with_reducible refine Kd.C_drewN ?_ _) | (with_reducible refine Kd.C_drew ?_))); (case side4 => exact HC0_1.out); rintro e wxc7181 ⟨rfl, hb⟩; refine ⟨_, rfl, ?_⟩; have n0_ := Aside0.mk (blk_below (g := gb221) (o := .cells #[.slice A0_0 l0_0.length c0_0, .slice A0_1 l0_1.length c0_1] 25 (0, 0)) (by (with_reducible repeat (first | refine blk_drewN ?_ _ | refine blk_drew ?_ | refine blk_alloc ?_ _)); exact BK221.out) hb); have n1_ := Aside0.mk (below_step (by repeat (first | (with_reducible first | exact HB.out | apply below_alloc | apply pw_below_drewN | apply below_drew1 | refine below_set ?_ GE221.out) | exact HB.out)) hb); clear BK221; clear HB; have BK221 := n0_; have HB := n1_; clear n0_ n1_; (try clear hb); (try clear hb2); (try clear hk); (try clear hi)))
     go_ret2
     exact ⟨_, by first | rfl | (simp [errW_none, errW_some] <;> rfl) | (simp [*, errW_none, errW_some] <;> rfl), by first | exact Kd.R_nil _ _ _ _ _ | exact Kd.N_nil _ _ _ _ _ | exact Kd.V_nil _ _ _ _ _ | exact Kd.Q_nil _ _ _ _ _ | exact Kd.S_nil _ _ _ _ _, by repeat (first | (with_reducible first | exact HB.out | apply below_alloc | apply pw_below_drewN | apply below_drew1 | refine below_set ?_ GE221.out) | exact HB.out)⟩
   | clear hm1_1
     have H' := Aside0.mk H
     clear H
     go_enter Try.func21, Try.ntmps21
     go_wp2_with (first | ((with_reducible refine gate_dst (N := 2) rfl ?_); refine box_event ?hg (N := 2) ?hd (cs := #[.slice A0_0 l0_0.length c0_0, .slice A0_1 l0_1.length c0_1]) (t := 25) ?hr ?_; (case hd => rfl); (case hg => rfl); (case hr => first | (go_simp; done) | (go_simp; rfl)); intro gb221 hg wx1b1a1 hbox hb; have n0_ := Aside0.mk (below_step (by repeat (first | (with_reducible first | exact HB.out | apply below_alloc | apply pw_below_drewN | apply below_drew1) | exact HB.out)) hb); have n1_ := Aside0.mk (hbox); have n2_ := Aside0.mk ((by rw [hg]; exact (below_size (by repeat (first | (with_reducible first | exact HB.out | apply below_alloc | apply pw_below_drewN | apply below_drew1) | exact HB.out))) : w.heap.size ≤ gb221)); have n3_ := Aside0.mk ((by rw [hg]; exact (below_size (by repeat (first | (with_reducible first | exact HB.out | apply below_alloc | apply pw_below_drewN | apply below_drew1) | exact HB.out))) : w.heap.size ≤ gb221)); clear HB; have HB := n0_; have BK221 := n1_; have GW221 := n2_; have GE221 := n3_; clear n0_ n1_ n2_ n3_; clear hb hbox hg; have hczx1b1a1 : wx1b1a1.cell? ⟨gb221, 0, none⟩ = some (.slice A0_0 l0_0.length c0_0) := (blk_cell BK221.out 0).trans rfl; have hczx1b1a2 : wx1b1a1.cell? ⟨gb221, 1, none⟩ = some (.slice A0_1 l0_1.length c0_1) := (blk_cell BK221.out 1).trans rfl; have hfzx1b1a1 := blk_frozen BK221.out 0; have hfzx1b1a2 := blk_frozen BK221.out 1) | ((with_reducible refine gate_callee (f := 49) rfl ?_); refine goesL_ (some 12) rfl rfl Try.func49 (by kernel_rfl) rfl #[.agg #[.slice A0_0 l0_0.length c0_0, .slice A0_1 l0_1.length c0_1]] rfl (by (try simp only [List.map_toArray, List.map_cons, List.map_nil]); first | done | rfl | (simp only [List.length_drop, List.length_take]; rfl)) ?_; (with_reducible refine (chart_Check.calls k _ _ l0_0 _ _ l0_1 t222 _ ?side1 ?side2 ?side3 ?side4 A3.out).mono ?_); (case side1 => repeat (first | exact (Kd.C_below HR0_0.out HB.out) | (with_reducible refine Kd.C_alloc ?_ _) | (with_reducible refine Kd.C_drewN ?_ _) | (with_reducible refine Kd.C_drew ?_))); (case side2 => exact HC0_0.out); (case side3 => repeat (first | exact (Kd.C_below HR0_1.out HB.out) | (with_reducible refine Kd.C_alloc ?_ _) | (with_reducible refine Kd.C_drewN ?_ _) | (with_reducible refine Kd.C_drew ?_))); (case side4 => exact HC0_1.out); rintro e wx14561 ⟨rfl, hb⟩; refine ⟨_, rfl, ?_⟩; have n0_ := Aside0.mk (blk_below (g := gb221) (o := .cells #[.slice A0_0 l0_0.length c0_0, .slice A0_1 l0_1.length c0_1] 25 (0, 0)) (by (with_reducible repeat (first | refine blk_drewN ?_ _ | refine blk_drew ?_ | refine blk_alloc ?_ _)); exact BK221.out) hb); have n1_ := Aside0.mk (below_step (by repeat (first | (with_reducible first | exact HB.out | apply below_alloc | apply pw_below_drewN | apply below_drew1 | refine below_set ?_ GE221.out) | exact HB.out)) hb); clear BK221; clear HB; have BK221 := n0_; have HB := n1_; clear n0_ n1_; (try clear hb); (try clear hb2); (try clear hk); (try clear hi); have hczx14561 : wx14561.cell? ⟨gb221, 0, none⟩ = some (.slice A0_0 l0_0.length c0_0) := (blk_cell BK221.out 0).trans rfl; have hczx14562 : wx14561.cell? ⟨gb221, 1, none⟩ = some (.slice A0_1 l0_1.length c0_1) := (blk_cell BK221.out 1).trans rfl; have hfzx14561 := blk_frozen BK221.out 0; have hfzx14562 := blk_frozen BK221.out 1) | ((with_reducible refine gate_callee (f := 55) rfl ?_); refine goesL_ (some 18) rfl rfl Try.func55 (by kernel_rfl) rfl #[.agg #[.slice A0_0 l0_0.length c0_0, .slice A0_1 l0_1.length c0_1], .string a1] rfl (by (try simp only [List.map_toArray, List.map_cons, List.map_nil]); first | done | rfl | (simp only [List.length_drop, List.length_take]; rfl)) ?_; (with_reducible refine (chart_find.calls _ _ l0_0 _ _ l0_1 a1 t223 _ ?side1 ?side2 ?side3 ?side4 A5.out).mono ?_); (case side1 => repeat (first | exact (Kd.C_below HR0_0.out HB.out) | (with_reducible refine Kd.C_alloc ?_ _) | (with_reducible refine Kd.C_drewN ?_ _) | (with_reducible refine Kd.C_drew ?_))); (case side2 => exact HC0_0.out); (case side3 => repeat (first | exact (Kd.C_below HR0_1.out HB.out) | (with_reducible refine Kd.C_alloc ?_ _) | (with_reducible refine Kd.C_drewN ?_ _) | (with_reducible refine Kd.C_drew ?_))); (case side4 => exact HC0_1.out); rintro e wx49701 ⟨rfl, hb⟩; refine ⟨_, rfl, ?_⟩; have n0_ := Aside0.mk (blk_below (g := gb221) (o := .cells #[.slice A0_0 l0_0.length c0_0, .slice A0_1 l0_1.length c0_1] 25 (0, 0)) (by (with_reducible repeat (first | refine blk_drewN ?_ _ | refine blk_drew ?_ | refine blk_alloc ?_ _)); exact BK221.out) hb); have n1_ := Aside0.mk (below_step (by repeat (first | (with_reducible first | exact HB.out | apply below_alloc | apply pw_below_drewN | apply below_drew1 | refine below_set ?_ GE221.out) | exact HB.out)) hb); clear BK221; clear HB; have BK221 := n0_; have HB := n1_; clear n0_ n1_; (try clear hb); (try clear hb2); (try clear hk); (try clear hi); have hczx49701 : wx49701.cell? ⟨gb221, 0, none⟩ = some (.slice A0_0 l0_0.length c0_0) := (blk_cell BK221.out 0).trans rfl; have hczx49702 : wx49701.cell? ⟨gb221, 1, none⟩ = some (.slice A0_1 l0_1.length c0_1) := (blk_cell BK221.out 1).trans rfl; have hfzx49701 := blk_frozen BK221.out 0; have hfzx49702 := blk_frozen BK221.out 1))
     go_loopg [7, 23] k (fun kq v7 v23 w' => ∃ (x7_1 : List ByteArray) (x23_1 : Int), v23 = .int .i64 x23_1 ∧ Aside0 (chart_Links.l0 kq a1 x7_1 l0_1 (l0_1.length : Int) x23_1 = some (r1, r2)) ∧ Aside0 (kq ≤ k) ∧ Aside0 (Kd.R Kd.string 9 w' w.heap.size (fun _ => True) v7 x7_1) ∧ Aside0 (w'.heap[gb221]? = some (.cells #[(.slice A0_0 l0_0.length c0_0), (.slice A0_1 l0_1.length c0_1)] 25 (0, 0))) ∧ Aside0 (Below w.heap.size w w'))
     case atStart => exact ⟨(([] : List ByteArray)), (0), (by first | rfl | (simp; done) | (simp [*]; done)), H', ⟨Nat.le_refl _⟩, ⟨by first | exact Kd.R_nil _ _ _ _ _ | exact Kd.N_nil _ _ _ _ _ | exact Kd.V_nil _ _ _ _ _ | exact Kd.Q_nil _ _ _ _ _ | exact Kd.S_nil _ _ _ _ _⟩, ⟨by (with_reducible repeat (first | refine blk_drewN ?_ _ | refine blk_drew ?_ | refine blk_alloc ?_ _)); exact BK221.out⟩, ⟨by repeat (first | (with_reducible first | exact HB.out | apply below_alloc | apply pw_below_drewN | apply below_drew1 | refine below_set ?_ GE221.out) | exact HB.out)⟩⟩
     case round =>
      clear H'
      (try clear c2); (try clear p2); (try clear c4); (try clear c4b0); (try clear c4b1); (try clear c5); (try clear c6); (try clear c6b0); (try clear hczza1); (try clear hczza2); (try clear hczx1b1a1); (try clear hczx1b1a2); (try clear hczx14561); (try clear hczx14562); (try clear hczx49701); (try clear hczx49702); (try clear hczza3); (try clear hczza4); (try clear hfzza1); (try clear hfzza2); (try clear hfzx1b1a1); (try clear hfzx1b1a2); (try clear hfzx14561); (try clear hfzx14562); (try clear hfzx49701); (try clear hfzx49702); (try clear hfzza3); (try clear hfzza4)
      obtain ⟨x7_1, x23_1, rfl, HA, HK1, HO_7, BK221, HB⟩ := hrel
      cases gk with
      | zero => exact absurd HA.out (by simp [chart_Links.l0])
      | succ k1 =>
       have H := HA.out
       clear HA
       simp only [chart_Links.l0] at H
       refine Or.elim (Classical.em (x23_1 < (l0_1.length : Int))) (fun c18 => ?p5_) (fun c18 => ?n5_)
       case' p5_ =>
        rw [if_pos c18] at H
        have c18b0 : decide (x23_1 < (l0_1.length : Int)) = true := decide_eq_true c18
        clear c18
        refine Or.elim (Classical.em (0 ≤ x23_1)) (fun c19 => ?p6_) (fun c19 => ?n6_)
        case' p6_ =>
         rw [if_pos c19] at H
         have c19b0 : decide (0 ≤ x23_1) = true := decide_eq_true c19
         clear c19
         refine Or.elim (Classical.em (x23_1 < (l0_1.length : Int))) (fun c20 => ?p7_) (fun c20 => ?n7_)
         case' p7_ =>
          rw [if_pos c20] at H
          have c20b0 : decide (x23_1 < (l0_1.length : Int)) = true := decide_eq_true c20
          clear c20
          replace H := Option.bind_eq_some_iff.mp H
          obtain ⟨t230, A210, H⟩ := H
          replace H : (if t230 < 0 then (chart_Links.l0 k1 a1 x7_1 l0_1 (l0_1.length : Int) (wrap64 (x23_1 + 1))) else (if t230 > 0 then (if 0 ≤ (wrap64 (t230 - 1)) then (if (wrap64 (t230 - 1)) < (((rd_T48 l0_1 x23_1).f1).length : Int) then (if x7_1.length < 8796093022208 then ((some (x7_1 ++ [rdOf ByteArray.empty ((rd_T48 l0_1 x23_1).f1) (wrap64 (t230 - 1))] : List ByteArray)).bind fun y232 => (if (wrap64 (t230 + 1)) < (((rd_T48 l0_1 x23_1).f1).length : Int) then (if 0 ≤ (wrap64 (t230 + 1)) then (if y232.length < 8796093022208 then (chart_Links.l0 k1 a1 (y232 ++ [rdOf ByteArray.empty ((rd_T48 l0_1 x23_1).f1) (wrap64 (t230 + 1))]) l0_1 (l0_1.length : Int) (wrap64 (x23_1 + 1))) else (none)) else (none)) else (chart_Links.l0 k1 a1 y232 l0_1 (l0_1.length : Int) (wrap64 (x23_1 + 1))))) else (none)) else (none)) else (none)) else (if (wrap64 (t230 + 1)) < (((rd_T48 l0_1 x23_1).f1).length : Int) then (if 0 ≤ (wrap64 (t230 + 1)) then (if x7_1.length < 8796093022208 then (chart_Links.l0 k1 a1 (x7_1 ++ [rdOf ByteArray.empty ((rd_T48 l0_1 x23_1).f1) (wrap64 (t230 + 1))]) l0_1 (l0_1.length : Int) (wrap64 (x23_1 + 1))) else (none)) else (none)) else (chart_Links.l0 k1 a1 x7_1 l0_1 (l0_1.length : Int) (wrap64 (x23_1 + 1)))))) = some (r1, r2) := H
          have A21 := Aside0.mk A210
          clear A210
          refine Or.elim (Classical.em (t230 < 0)) (fun c22 => ?p8_) (fun c22 => ?n8_)
          case' p8_ =>
           rw [if_pos c22] at H
           have c22b0 : decide (t230 < 0) = true := decide_eq_true c22
           clear c22
           have hm4_0 := Aside0.mk trivial
          case' n8_ =>
           rw [if_neg c22] at H
           have c22b0 : decide (t230 < 0) = false := decide_eq_false c22
           clear c22
           refine Or.elim (Classical.em (t230 > 0)) (fun c27 => ?p9_) (fun c27 => ?n9_)
           case' p9_ =>
            rw [if_pos c27] at H
            have c27b0 : decide (0 < t230) = true := decide_eq_true c27
            clear c27
            obtain ⟨ji28, hji28⟩ : ∃ j_ : Int, (wrap64 (t230 - 1)) = j_ := ⟨_, rfl⟩
            replace H : (if 0 ≤ (ji28) then (if (ji28) < (((rd_T48 l0_1 x23_1).f1).length : Int) then (if x7_1.length < 8796093022208 then ((some (x7_1 ++ [rdOf ByteArray.empty ((rd_T48 l0_1 x23_1).f1) (ji28)] : List ByteArray)).bind fun y232 => (if (wrap64 (t230 + 1)) < (((rd_T48 l0_1 x23_1).f1).length : Int) then (if 0 ≤ (wrap64 (t230 + 1)) then (if y232.length < 8796093022208 then (chart_Links.l0 k1 a1 (y232 ++ [rdOf ByteArray.empty ((rd_T48 l0_1 x23_1).f1) (wrap64 (t230 + 1))]) l0_1 (l0_1.length : Int) (wrap64 (x23_1 + 1))) else (none)) else (none)) else (chart_Links.l0 k1 a1 y232 l0_1 (l0_1.length : Int) (wrap64 (x23_1 + 1))))) else (none)) else (none)) else (none)) = some (r1, r2) := by first | (rw [hji28] at H; exact H) | (simp only [hji28] at H ⊢; exact H)
            (try rw [hji28] at A21)
            have hji28w : (IntKind.i64.wrap (t230 - 1)) = ji28 := (i64_w _).trans hji28
            refine Or.elim (Classical.em (0 ≤ (ji28))) (fun c29 => ?p10_) (fun c29 => ?n10_)
            case' p10_ =>
             rw [if_pos c29] at H
             have c29b0 : decide (0 ≤ (ji28)) = true := decide_eq_true c29
             clear c29
             refine Or.elim (Classical.em ((ji28) < (((rd_T48 l0_1 x23_1).f1).length : Int))) (fun c30 => ?p11_) (fun c30 => ?n11_)
             case' p11_ =>
              rw [if_pos c30] at H
              have c30b0 : decide ((ji28) < (((rd_T48 l0_1 x23_1).f1).length : Int)) = true := decide_eq_true c30
              clear c30
              refine Or.elim (Classical.em (x7_1.length < 8796093022208)) (fun c31 => ?p12_) (fun c31 => ?n12_)
              case' p12_ =>
               rw [if_pos c31] at H
               have LMc31 := Aside0.mk c31
               clear c31
               obtain ⟨y232, hy232⟩ : ∃ y_ : List ByteArray, y_ = (x7_1 ++ [rdOf ByteArray.empty ((rd_T48 l0_1 x23_1).f1) (ji28)]) := ⟨_, rfl⟩
               replace H : (if (wrap64 (t230 + 1)) < (((rd_T48 l0_1 x23_1).f1).length : Int) then (if 0 ≤ (wrap64 (t230 + 1)) then (if y232.length < 8796093022208 then (chart_Links.l0 k1 a1 (y232 ++ [rdOf ByteArray.empty ((rd_T48 l0_1 x23_1).f1) (wrap64 (t230 + 1))]) l0_1 (l0_1.length : Int) (wrap64 (x23_1 + 1))) else (none)) else (none)) else (chart_Links.l0 k1 a1 y232 l0_1 (l0_1.length : Int) (wrap64 (x23_1 + 1)))) = some (r1, r2) := by first | (rw [hy232]; with_reducible exact H) | (have H2_ := (Option.bind_some _ _).symm.trans H; rw [hy232]; with_reducible exact H2_) | (have H2_ := (Option.bind_some _ _).symm.trans H; with_reducible exact H2_) | with_reducible exact H | (rw [hy232]; exact H) | exact H
               have Ny232 := Aside0.mk hy232
               clear hy232
               refine Or.elim (Classical.em ((wrap64 (t230 + 1)) < (((rd_T48 l0_1 x23_1).f1).length : Int))) (fun c32 => ?p13_) (fun c32 => ?n13_)
               case' p13_ =>
                rw [if_pos c32] at H
                have c32b0 : decide ((wrap64 (t230 + 1)) < (((rd_T48 l0_1 x23_1).f1).length : Int)) = true := decide_eq_true c32
                clear c32
                obtain ⟨ji33, hji33⟩ : ∃ j_ : Int, (wrap64 (t230 + 1)) = j_ := ⟨_, rfl⟩
                replace H : (if 0 ≤ (ji33) then (if y232.length < 8796093022208 then (chart_Links.l0 k1 a1 (y232 ++ [rdOf ByteArray.empty ((rd_T48 l0_1 x23_1).f1) (ji33)]) l0_1 (l0_1.length : Int) (wrap64 (x23_1 + 1))) else (none)) else (none)) = some (r1, r2) := by first | (rw [hji33] at H; exact H) | (simp only [hji33] at H ⊢; exact H)
                (try rw [hji33] at c32b0)
                (try rw [hji33] at A21)
                have hji33w : (IntKind.i64.wrap (t230 + 1)) = ji33 := (i64_w _).trans hji33
                refine Or.elim (Classical.em (0 ≤ (ji33))) (fun c34 => ?p14_) (fun c34 => ?n14_)
                case' p14_ =>
                 rw [if_pos c34] at H
                 have c34b0 : decide (0 ≤ (ji33)) = true := decide_eq_true c34
                 clear c34
                 refine Or.elim (Classical.em (y232.length < 8796093022208)) (fun c35 => ?p15_) (fun c35 => ?n15_)
                 case' p15_ =>
                  rw [if_pos c35] at H
                  have LMc35 := Aside0.mk c35
                  clear c35
                  obtain ⟨y236, hy236⟩ : ∃ y_ : List ByteArray, y_ = (y232 ++ [rdOf ByteArray.empty ((rd_T48 l0_1 x23_1).f1) (ji33)]) := ⟨_, rfl⟩
                  replace H : (chart_Links.l0 k1 a1 y236 l0_1 (l0_1.length : Int) (wrap64 (x23_1 + 1))) = some (r1, r2) := by first | (rw [hy236]; with_reducible exact H) | (have H2_ := (Option.bind_some _ _).symm.trans H; rw [hy236]; with_reducible exact H2_) | (have H2_ := (Option.bind_some _ _).symm.trans H; with_reducible exact H2_) | with_reducible exact H | (rw [hy236]; exact H) | exact H
                  have Ny236 := Aside0.mk hy236
                  clear hy236
                  have hm4_1 := Aside0.mk trivial
                 case' n15_ =>
                  rw [if_neg c35] at H
                  exact absurd H (by simp)
                case' n14_ =>
                 rw [if_neg c34] at H
                 exact absurd H (by simp)
               case' n13_ =>
                rw [if_neg c32] at H
                have c32b0 : decide ((wrap64 (t230 + 1)) < (((rd_T48 l0_1 x23_1).f1).length : Int)) = false := decide_eq_false c32
                clear c32
                have hm4_2 := Aside0.mk trivial
              case' n12_ =>
               rw [if_neg c31] at H
               exact absurd H (by simp)
             case' n11_ =>
              rw [if_neg c30] at H
              exact absurd H (by simp)
            case' n10_ =>
             rw [if_neg c29] at H
             exact absurd H (by simp)
           case' n9_ =>
            rw [if_neg c27] at H
            have c27b0 : decide (0 < t230) = false := decide_eq_false c27
            clear c27
            refine Or.elim (Classical.em ((wrap64 (t230 + 1)) < (((rd_T48 l0_1 x23_1).f1).length : Int))) (fun c51 => ?p16_) (fun c51 => ?n16_)
            case' p16_ =>
             rw [if_pos c51] at H
             have c51b0 : decide ((wrap64 (t230 + 1)) < (((rd_T48 l0_1 x23_1).f1).length : Int)) = true := decide_eq_true c51
             clear c51
             obtain ⟨ji52, hji52⟩ : ∃ j_ : Int, (wrap64 (t230 + 1)) = j_ := ⟨_, rfl⟩
             replace H : (if 0 ≤ (ji52) then (if x7_1.length < 8796093022208 then (chart_Links.l0 k1 a1 (x7_1 ++ [rdOf ByteArray.empty ((rd_T48 l0_1 x23_1).f1) (ji52)]) l0_1 (l0_1.length : Int) (wrap64 (x23_1 + 1))) else (none)) else (none)) = some (r1, r2) := by first | (rw [hji52] at H; exact H) | (simp only [hji52] at H ⊢; exact H)
             (try rw [hji52] at c51b0)
             (try rw [hji52] at A21)
             have hji52w : (IntKind.i64.wrap (t230 + 1)) = ji52 := (i64_w _).trans hji52
             refine Or.elim (Classical.em (0 ≤ (ji52))) (fun c53 => ?p17_) (fun c53 => ?n17_)
             case' p17_ =>
              rw [if_pos c53] at H
              have c53b0 : decide (0 ≤ (ji52)) = true := decide_eq_true c53
              clear c53
              refine Or.elim (Classical.em (x7_1.length < 8796093022208)) (fun c54 => ?p18_) (fun c54 => ?n18_)
              case' p18_ =>
               rw [if_pos c54] at H
               have LMc54 := Aside0.mk c54
               clear c54
               obtain ⟨y240, hy240⟩ : ∃ y_ : List ByteArray, y_ = (x7_1 ++ [rdOf ByteArray.empty ((rd_T48 l0_1 x23_1).f1) (ji52)]) := ⟨_, rfl⟩
               replace H : (chart_Links.l0 k1 a1 y240 l0_1 (l0_1.length : Int) (wrap64 (x23_1 + 1))) = some (r1, r2) := by first | (rw [hy240]; with_reducible exact H) | (have H2_ := (Option.bind_some _ _).symm.trans H; rw [hy240]; with_reducible exact H2_) | (have H2_ := (Option.bind_some _ _).symm.trans H; with_reducible exact H2_) | with_reducible exact H | (rw [hy240]; exact H) | exact H
               have Ny240 := Aside0.mk hy240
               clear hy240
               have hm4_3 := Aside0.mk trivial
              case' n18_ =>
               rw [if_neg c54] at H
               exact absurd H (by simp)
             case' n17_ =>
              rw [if_neg c53] at H
              exact absurd H (by simp)
            case' n16_ =>
             rw [if_neg c51] at H
             have c51b0 : decide ((wrap64 (t230 + 1)) < (((rd_T48 l0_1 x23_1).f1).length : Int)) = false := decide_eq_false c51
             clear c51
             have hm4_0 := Aside0.mk trivial
         case' n7_ =>
          rw [if_neg c20] at H
          exact absurd H (by simp)
        case' n6_ =>
         rw [if_neg c19] at H
         exact absurd H (by simp)
       case' n5_ =>
        rw [if_neg c18] at H
        have c18b0 : decide (x23_1 < (l0_1.length : Int)) = false := decide_eq_false c18
        clear c18
        replace H := Option.bind_eq_some_iff.mp H
        obtain ⟨t224, A660, H⟩ := H
        replace H : ((slices_Compact_string_string.f t224).bind fun t225 => (some (t225, 0))) = some (r1, r2) := H
        have A66 := Aside0.mk A660
        clear A660
        replace H := Option.bind_eq_some_iff.mp H
        obtain ⟨t225, A670, H⟩ := H
        replace H : (some (t225, 0)) = some (r1, r2) := H
        have A67 := Aside0.mk A670
        clear A670
        simp only [Option.some.injEq, Prod.mk.injEq] at H
        obtain ⟨rfl, rfl⟩ := H
        obtain ⟨Aoza1, coza1, eoza1⟩ := Kd.R_slice HO_7.out
        subst eoza1
        have hm4_4 := Aside0.mk trivial
       all_goals
        first
         | (first | (have _hm := hm4_0) | (have _hm := hm4_1) | (have _hm := hm4_2) | (have _hm := hm4_3))
           have H' := Aside0.mk H
           clear H
           have p228 : 0 ≤ (x23_1 : Int) := of_decide_eq_true (by first | (with_reducible assumption) | assumption)
           have q228 : x23_1 < (l0_1.length : Int) := of_decide_eq_true (by first | (with_reducible assumption) | assumption)
           obtain ⟨ad228, A228_1, c228_1, e228, hx228_0, hx228_1, hl228_1, hi228_1⟩ := at_T48 HR0_1.out x23_1 p228 q228
           cases e228
           replace hx228_0 := (HB.out.cell (World.block_lt_of_cell? w _ hx228_0)).trans hx228_0
           replace hx228_1 := (HB.out.cell (World.block_lt_of_cell? w _ hx228_1)).trans hx228_1
           have HR228_1 := Aside0.mk hi228_1
           have HC228_1 := Aside0.mk hl228_1
           clear hi228_1 hl228_1
           replace p228 := eq_true p228
           replace q228 := eq_true q228
           go_wp2_with (first | ((with_reducible refine gate_dst (N := 9) rfl ?_); refine box_event ?hg (N := 9) ?hd (cs := #[.string (⟨#[]⟩ : ByteArray), .slice none 0 0]) (t := 48) ?hr ?_; (case hd => rfl); (case hg => rfl); (case hr => first | (go_simp; done) | (go_simp; rfl)); intro gb229 hg wx46151 hbox hb; have n0_ := Aside0.mk (Kd.R_below (by (with_reducible repeat (first | apply Kd.R_alloc | apply Kd.R_drewN | apply Kd.R_drew)); exact HO_7.out) hb); have n1_ := Aside0.mk (blk_below (g := gb221) (o := .cells #[.slice A0_0 l0_0.length c0_0, .slice (some ad228) l0_1.length c0_1] 25 (0, 0)) (by (with_reducible repeat (first | refine blk_drewN ?_ _ | refine blk_drew ?_ | refine blk_alloc ?_ _)); exact BK221.out) hb); have n2_ := Aside0.mk (below_step (by repeat (first | (with_reducible first | exact HB.out | apply below_alloc | apply pw_below_drewN | apply below_drew1 | refine below_set ?_ GE221.out) | exact HB.out)) hb); have n3_ := Aside0.mk (hbox); have n4_ := Aside0.mk ((by rw [hg]; exact (below_size (by repeat (first | (with_reducible first | exact HB.out | apply below_alloc | apply pw_below_drewN | apply below_drew1 | refine below_set ?_ GE221.out) | exact HB.out))) : w.heap.size ≤ gb229)); have n5_ := Aside0.mk ((by rw [hg]; exact (below_size (by repeat (first | (with_reducible first | exact HB.out | apply below_alloc | apply pw_below_drewN | apply below_drew1 | refine below_set ?_ GE221.out) | exact HB.out))) : w.heap.size ≤ gb229)); have n6_ := Aside0.mk ((by rw [hg]; exact Nat.ne_of_lt (blk_lt (g := gb221) (o := .cells #[.slice A0_0 l0_0.length c0_0, .slice (some ad228) l0_1.length c0_1] 25 (0, 0)) (by (with_reducible repeat (first | refine blk_drewN ?_ _ | refine blk_drew ?_ | refine blk_alloc ?_ _)); exact BK221.out)) : gb221 ≠ gb229)); have n7_ := Aside0.mk ((by rw [hg]; exact Nat.ne_of_gt (blk_lt (g := gb221) (o := .cells #[.slice A0_0 l0_0.length c0_0, .slice (some ad228) l0_1.length c0_1] 25 (0, 0)) (by (with_reducible repeat (first | refine blk_drewN ?_ _ | refine blk_drew ?_ | refine blk_alloc ?_ _)); exact BK221.out)) : gb229 ≠ gb221)); clear HO_7; clear BK221; clear HB; have HO_7 := n0_; have BK221 := n1_; have HB := n2_; have BK229 := n3_; have GW229 := n4_; have GE229 := n5_; have NB221_229 := n6_; have NB229_221 := n7_; clear n0_ n1_ n2_ n3_ n4_ n5_ n6_ n7_; clear hb hbox hg; have hnbx46151 := NB229_221.out; have hncx46151 := NB221_229.out; have hczx46151 : wx46151.cell? ⟨gb229, 0, none⟩ = some (.string (⟨#[]⟩ : ByteArray)) := (blk_cell BK229.out 0).trans rfl; have hczx46152 : wx46151.cell? ⟨gb229, 1, none⟩ = some (.slice none 0 0) := (blk_cell BK229.out 1).trans rfl; have hfzx46151 := blk_frozen BK229.out 0; have hfzx46152 := blk_frozen BK229.out 1) | ((with_reducible refine gate_callee (f := 52) rfl ?_); refine goesL_ (some 30) rfl rfl Try.func52 (by kernel_rfl) rfl #[.slice A228_1 ((rd_T48 l0_1 x23_1).f1).length c228_1, .string a1] rfl (by (try simp only [List.map_toArray, List.map_cons, List.map_nil]); first | done | rfl | (simp only [List.length_drop, List.length_take]; rfl)) ?_; (with_reducible refine (slices_Index_string_string.calls k1 _ _ ((rd_T48 l0_1 x23_1).f1) a1 t230 _ ?side1 ?side2 A21.out).mono ?_); (case side1 => exact Kd.C_below HR228_1.out (by repeat (first | (with_reducible first | exact HB.out | apply below_alloc | apply pw_below_drewN | apply below_drew1 | refine below_set ?_ GE221.out | refine below_set ?_ GE229.out) | exact HB.out))); (case side2 => exact HC228_1.out); rintro e wx37511 ⟨rfl, hb⟩; refine ⟨_, rfl, ?_⟩; have n0_ := Aside0.mk (Kd.R_below (by (with_reducible repeat (first | apply Kd.R_alloc | apply Kd.R_drewN | apply Kd.R_drew)); exact (Kd.R_mono (Kd.R_far (p := ⟨gb229, 1, none⟩) (Kd.R_far (p := ⟨gb229, 0, none⟩) (Kd.R_types HO_7.out BK229.out (by decide)) (fun _ hk => hk.2) (.string ((rd_T48 l0_1 x23_1).f0))) (fun _ hk => hk.2) (.slice A228_1 ((rd_T48 l0_1 x23_1).f1).length c228_1)) (fun _ h_ => h_.1))) hb); have n1_ := Aside0.mk (blk_below (g := gb221) (o := .cells #[.slice A0_0 l0_0.length c0_0, .slice (some ad228) l0_1.length c0_1] 25 (0, 0)) (by (with_reducible repeat (first | refine blk_drewN ?_ _ | refine blk_drew ?_ | refine blk_alloc ?_ _)); refine blk_far ?_ NB221_229.out _; (with_reducible repeat (first | refine blk_drewN ?_ _ | refine blk_drew ?_ | refine blk_alloc ?_ _)); refine blk_far ?_ NB221_229.out _; (with_reducible repeat (first | refine blk_drewN ?_ _ | refine blk_drew ?_ | refine blk_alloc ?_ _)); exact BK221.out) hb); have n2_ := Aside0.mk (blk_below (g := gb229) (o := .cells #[.string ((rd_T48 l0_1 x23_1).f0), .slice A228_1 ((rd_T48 l0_1 x23_1).f1).length c228_1] 48 (0, 0)) (by (with_reducible repeat (first | refine blk_drewN ?_ _ | refine blk_drew ?_ | refine blk_alloc ?_ _)); refine blk_put (cs := #[.string ((rd_T48 l0_1 x23_1).f0), .slice none 0 0]) ?_ 1 _ rfl; (with_reducible repeat (first | refine blk_drewN ?_ _ | refine blk_drew ?_ | refine blk_alloc ?_ _)); refine blk_put (cs := #[.string (⟨#[]⟩ : ByteArray), .slice none 0 0]) ?_ 0 _ rfl; (with_reducible repeat (first | refine blk_drewN ?_ _ | refine blk_drew ?_ | refine blk_alloc ?_ _)); exact BK229.out) hb); have n3_ := Aside0.mk (below_step (by repeat (first | (with_reducible first | exact HB.out | apply below_alloc | apply pw_below_drewN | apply below_drew1 | refine below_set ?_ GE221.out | refine below_set ?_ GE229.out) | exact HB.out)) hb); clear HO_7; clear BK221; clear BK229; clear HB; have HO_7 := n0_; have BK221 := n1_; have BK229 := n2_; have HB := n3_; clear n0_ n1_ n2_ n3_; (try clear hb); (try clear hb2); (try clear hk); (try clear hi); have hczx37511 : wx37511.cell? ⟨gb229, 0, none⟩ = some (.string ((rd_T48 l0_1 x23_1).f0)) := (blk_cell BK229.out 0).trans rfl; have hczx37512 : wx37511.cell? ⟨gb229, 1, none⟩ = some (.slice A228_1 ((rd_T48 l0_1 x23_1).f1).length c228_1) := (blk_cell BK229.out 1).trans rfl; have hfzx37511 := blk_frozen BK229.out 0; have hfzx37512 := blk_frozen BK229.out 1; have p231 : 0 ≤ ((ji28) : Int) := of_decide_eq_true (by first | (with_reducible assumption) | assumption); have q231 : (ji28) < (((rd_T48 l0_1 x23_1).f1).length : Int) := of_decide_eq_true (by first | (with_reducible assumption) | assumption); obtain ⟨ad231, e231, hx231_0⟩ := Kd.at_string HR228_1.out (ji28) p231 q231; cases e231; replace hx231_0 := (HB.out.cell (World.block_lt_of_cell? w _ hx231_0)).trans hx231_0; replace p231 := eq_true p231; replace q231 := eq_true q231) | ((with_reducible refine gate_callee (f := 52) rfl ?_); refine goesL_ (some 30) rfl rfl Try.func52 (by kernel_rfl) rfl #[.slice A228_1 ((rd_T48 l0_1 x23_1).f1).length c228_1, .string a1] rfl (by (try simp only [List.map_toArray, List.map_cons, List.map_nil]); first | done | rfl | (simp only [List.length_drop, List.length_take]; rfl)) ?_; (with_reducible refine (slices_Index_string_string.calls k1 _ _ ((rd_T48 l0_1 x23_1).f1) a1 t230 _ ?side1 ?side2 A21.out).mono ?_); (case side1 => exact Kd.C_below HR228_1.out (by repeat (first | (with_reducible first | exact HB.out | apply below_alloc | apply pw_below_drewN | apply below_drew1 | refine below_set ?_ GE221.out | refine below_set ?_ GE229.out) | exact HB.out))); (case side2 => exact HC228_1.out); rintro e wx951d1 ⟨rfl, hb⟩; refine ⟨_, rfl, ?_⟩; have n0_ := Aside0.mk (Kd.R_below (by (with_reducible repeat (first | apply Kd.R_alloc | apply Kd.R_drewN | apply Kd.R_drew)); exact (Kd.R_mono (Kd.R_far (p := ⟨gb229, 1, none⟩) (Kd.R_far (p := ⟨gb229, 0, none⟩) (Kd.R_types HO_7.out BK229.out (by decide)) (fun _ hk => hk.2) (.string ((rd_T48 l0_1 x23_1).f0))) (fun _ hk => hk.2) (.slice A228_1 ((rd_T48 l0_1 x23_1).f1).length c228_1)) (fun _ h_ => h_.1))) hb); have n1_ := Aside0.mk (blk_below (g := gb221) (o := .cells #[.slice A0_0 l0_0.length c0_0, .slice (some ad228) l0_1.length c0_1] 25 (0, 0)) (by (with_reducible repeat (first | refine blk_drewN ?_ _ | refine blk_drew ?_ | refine blk_alloc ?_ _)); refine blk_far ?_ NB221_229.out _; (with_reducible repeat (first | refine blk_drewN ?_ _ | refine blk_drew ?_ | refine blk_alloc ?_ _)); refine blk_far ?_ NB221_229.out _; (with_reducible repeat (first | refine blk_drewN ?_ _ | refine blk_drew ?_ | refine blk_alloc ?_ _)); exact BK221.out) hb); have n2_ := Aside0.mk (blk_below (g := gb229) (o := .cells #[.string ((rd_T48 l0_1 x23_1).f0), .slice A228_1 ((rd_T48 l0_1 x23_1).f1).length c228_1] 48 (0, 0)) (by (with_reducible repeat (first | refine blk_drewN ?_ _ | refine blk_drew ?_ | refine blk_alloc ?_ _)); refine blk_put (cs := #[.string ((rd_T48 l0_1 x23_1).f0), .slice none 0 0]) ?_ 1 _ rfl; (with_reducible repeat (first | refine blk_drewN ?_ _ | refine blk_drew ?_ | refine blk_alloc ?_ _)); refine blk_put (cs := #[.string (⟨#[]⟩ : ByteArray), .slice none 0 0]) ?_ 0 _ rfl; (with_reducible repeat (first | refine blk_drewN ?_ _ | refine blk_drew ?_ | refine blk_alloc ?_ _)); exact BK229.out) hb); have n3_ := Aside0.mk (below_step (by repeat (first | (with_reducible first | exact HB.out | apply below_alloc | apply pw_below_drewN | apply below_drew1 | refine below_set ?_ GE221.out | refine below_set ?_ GE229.out) | exact HB.out)) hb); clear HO_7; clear BK221; clear BK229; clear HB; have HO_7 := n0_; have BK221 := n1_; have BK229 := n2_; have HB := n3_; clear n0_ n1_ n2_ n3_; (try clear hb); (try clear hb2); (try clear hk); (try clear hi); have hczx951d1 : wx951d1.cell? ⟨gb229, 0, none⟩ = some (.string ((rd_T48 l0_1 x23_1).f0)) := (blk_cell BK229.out 0).trans rfl; have hczx951d2 : wx951d1.cell? ⟨gb229, 1, none⟩ = some (.slice A228_1 ((rd_T48 l0_1 x23_1).f1).length c228_1) := (blk_cell BK229.out 1).trans rfl; have hfzx951d1 := blk_frozen BK229.out 0; have hfzx951d2 := blk_frozen BK229.out 1; have p239 : 0 ≤ ((ji52) : Int) := of_decide_eq_true (by first | (with_reducible assumption) | assumption); have q239 : (ji52) < (((rd_T48 l0_1 x23_1).f1).length : Int) := of_decide_eq_true (by first | (with_reducible assumption) | assumption); obtain ⟨ad239, e239, hx239_0⟩ := Kd.at_string HR228_1.out (ji52) p239 q239; cases e239; replace hx239_0 := (HB.out.cell (World.block_lt_of_cell? w _ hx239_0)).trans hx239_0; replace p239 := eq_true p239; replace q239 := eq_true q239) | ((with_reducible refine gate_callee (f := 52) rfl ?_); refine goesL_ (some 30) rfl rfl Try.func52 (by kernel_rfl) rfl #[.slice A228_1 ((rd_T48 l0_1 x23_1).f1).length c228_1, .string a1] rfl (by (try simp only [List.map_toArray, List.map_cons, List.map_nil]); first | done | rfl | (simp only [List.length_drop, List.length_take]; rfl)) ?_; (with_reducible refine (slices_Index_string_string.calls k1 _ _ ((rd_T48 l0_1 x23_1).f1) a1 t230 _ ?side1 ?side2 A21.out).mono ?_); (case side1 => exact Kd.C_below HR228_1.out (by repeat (first | (with_reducible first | exact HB.out | apply below_alloc | apply pw_below_drewN | apply below_drew1 | refine below_set ?_ GE221.out | refine below_set ?_ GE229.out) | exact HB.out))); (case side2 => exact HC228_1.out); rintro e wxcb331 ⟨rfl, hb⟩; refine ⟨_, rfl, ?_⟩; have n0_ := Aside0.mk (Kd.R_below (by (with_reducible repeat (first | apply Kd.R_alloc | apply Kd.R_drewN | apply Kd.R_drew)); exact (Kd.R_mono (Kd.R_far (p := ⟨gb229, 1, none⟩) (Kd.R_far (p := ⟨gb229, 0, none⟩) (Kd.R_types HO_7.out BK229.out (by decide)) (fun _ hk => hk.2) (.string ((rd_T48 l0_1 x23_1).f0))) (fun _ hk => hk.2) (.slice A228_1 ((rd_T48 l0_1 x23_1).f1).length c228_1)) (fun _ h_ => h_.1))) hb); have n1_ := Aside0.mk (blk_below (g := gb221) (o := .cells #[.slice A0_0 l0_0.length c0_0, .slice (some ad228) l0_1.length c0_1] 25 (0, 0)) (by (with_reducible repeat (first | refine blk_drewN ?_ _ | refine blk_drew ?_ | refine blk_alloc ?_ _)); refine blk_far ?_ NB221_229.out _; (with_reducible repeat (first | refine blk_drewN ?_ _ | refine blk_drew ?_ | refine blk_alloc ?_ _)); refine blk_far ?_ NB221_229.out _; (with_reducible repeat (first | refine blk_drewN ?_ _ | refine blk_drew ?_ | refine blk_alloc ?_ _)); exact BK221.out) hb); have n2_ := Aside0.mk (blk_below (g := gb229) (o := .cells #[.string ((rd_T48 l0_1 x23_1).f0), .slice A228_1 ((rd_T48 l0_1 x23_1).f1).length c228_1] 48 (0, 0)) (by (with_reducible repeat (first | refine blk_drewN ?_ _ | refine blk_drew ?_ | refine blk_alloc ?_ _)); refine blk_put (cs := #[.string ((rd_T48 l0_1 x23_1).f0), .slice none 0 0]) ?_ 1 _ rfl; (with_reducible repeat (first | refine blk_drewN ?_ _ | refine blk_drew ?_ | refine blk_alloc ?_ _)); refine blk_put (cs := #[.string (⟨#[]⟩ : ByteArray), .slice none 0 0]) ?_ 0 _ rfl; (with_reducible repeat (first | refine blk_drewN ?_ _ | refine blk_drew ?_ | refine blk_alloc ?_ _)); exact BK229.out) hb); have n3_ := Aside0.mk (below_step (by repeat (first | (with_reducible first | exact HB.out | apply below_alloc | apply pw_below_drewN | apply below_drew1 | refine below_set ?_ GE221.out | refine below_set ?_ GE229.out) | exact HB.out)) hb); clear HO_7; clear BK221; clear BK229; clear HB; have HO_7 := n0_; have BK221 := n1_; have BK229 := n2_; have HB := n3_; clear n0_ n1_ n2_ n3_; (try clear hb); (try clear hb2); (try clear hk); (try clear hi); have hczxcb331 : wxcb331.cell? ⟨gb229, 0, none⟩ = some (.string ((rd_T48 l0_1 x23_1).f0)) := (blk_cell BK229.out 0).trans rfl; have hczxcb332 : wxcb331.cell? ⟨gb229, 1, none⟩ = some (.slice A228_1 ((rd_T48 l0_1 x23_1).f1).length c228_1) := (blk_cell BK229.out 1).trans rfl; have hfzxcb331 := blk_frozen BK229.out 0; have hfzxcb332 := blk_frozen BK229.out 1) | ((with_reducible refine gate_callee (f := 52) rfl ?_); refine goesL_ (some 30) rfl rfl Try.func52 (by kernel_rfl) rfl #[.slice A228_1 ((rd_T48 l0_1 x23_1).f1).length c228_1, .string a1] rfl (by (try simp only [List.map_toArray, List.map_cons, List.map_nil]); first | done | rfl | (simp only [List.length_drop, List.length_take]; rfl)) ?_; (with_reducible refine (slices_Index_string_string.calls k1 _ _ ((rd_T48 l0_1 x23_1).f1) a1 t230 _ ?side1 ?side2 A21.out).mono ?_); (case side1 => exact Kd.C_below HR228_1.out (by repeat (first | (with_reducible first | exact HB.out | apply below_alloc | apply pw_below_drewN | apply below_drew1 | refine below_set ?_ GE221.out | refine below_set ?_ GE229.out) | exact HB.out))); (case side2 => exact HC228_1.out); rintro e wxa03a1 ⟨rfl, hb⟩; refine ⟨_, rfl, ?_⟩; have n0_ := Aside0.mk (Kd.R_below (by (with_reducible repeat (first | apply Kd.R_alloc | apply Kd.R_drewN | apply Kd.R_drew)); exact (Kd.R_mono (Kd.R_far (p := ⟨gb229, 1, none⟩) (Kd.R_far (p := ⟨gb229, 0, none⟩) (Kd.R_types HO_7.out BK229.out (by decide)) (fun _ hk => hk.2) (.string ((rd_T48 l0_1 x23_1).f0))) (fun _ hk => hk.2) (.slice A228_1 ((rd_T48 l0_1 x23_1).f1).length c228_1)) (fun _ h_ => h_.1))) hb); have n1_ := Aside0.mk (blk_below (g := gb221) (o := .cells #[.slice A0_0 l0_0.length c0_0, .slice (some ad228) l0_1.length c0_1] 25 (0, 0)) (by (with_reducible repeat (first | refine blk_drewN ?_ _ | refine blk_drew ?_ | refine blk_alloc ?_ _)); refine blk_far ?_ NB221_229.out _; (with_reducible repeat (first | refine blk_drewN ?_ _ | refine blk_drew ?_ | refine blk_alloc ?_ _)); refine blk_far ?_ NB221_229.out _; (with_reducible repeat (first | refine blk_drewN ?_ _ | refine blk_drew ?_ | refine blk_alloc ?_ _)); exact BK221.out) hb); have n2_ := Aside0.mk (blk_below (g := gb229) (o := .cells #[.string ((rd_T48 l0_1 x23_1).f0), .slice A228_1 ((rd_T48 l0_1 x23_1).f1).length c228_1] 48 (0, 0)) (by (with_reducible repeat (first | refine blk_drewN ?_ _ | refine blk_drew ?_ | refine blk_alloc ?_ _)); refine blk_put (cs := #[.string ((rd_T48 l0_1 x23_1).f0), .slice none 0 0]) ?_ 1 _ rfl; (with_reducible repeat (first | refine blk_drewN ?_ _ | refine blk_drew ?_ | refine blk_alloc ?_ _)); refine blk_put (cs := #[.string (⟨#[]⟩ : ByteArray), .slice none 0 0]) ?_ 0 _ rfl; (with_reducible repeat (first | refine blk_drewN ?_ _ | refine blk_drew ?_ | refine blk_alloc ?_ _)); exact BK229.out) hb); have n3_ := Aside0.mk (below_step (by repeat (first | (with_reducible first | exact HB.out | apply below_alloc | apply pw_below_drewN | apply below_drew1 | refine below_set ?_ GE221.out | refine below_set ?_ GE229.out) | exact HB.out)) hb); clear HO_7; clear BK221; clear BK229; clear HB; have HO_7 := n0_; have BK221 := n1_; have BK229 := n2_; have HB := n3_; clear n0_ n1_ n2_ n3_; (try clear hb); (try clear hb2); (try clear hk); (try clear hi)) | ((with_reducible refine gate_builtin (b := .append) (xs := #[.tmp 35, .tmp 42]) rfl ?_); at_builtin; refine Kd.R_append Kd.string (w0 := w) w.heap.size rfl (.tmp 35) (.tmp 42) 27 9 (.string ⟨#[]⟩) 16 rfl Try.underlying27 info9 rfl (by decide) (by omega) u7 x7_1 (rdOf ByteArray.empty ((rd_T48 l0_1 x23_1).f1) (ji28)) [.string (rdOf ByteArray.empty ((rd_T48 l0_1 x23_1).f1) (ji28))] (fun _ => True) (fun _ => False) rfl rfl ?aP (fun _ hk => hk.elim) ?aF ?aO ?aB ?aS ?aL ?_; (case aP => exact rfl); (case aB => exact (by repeat (first | (with_reducible first | exact HB.out | apply below_alloc | apply pw_below_drewN | apply below_drew1 | refine below_set ?_ GE221.out | refine below_set ?_ GE229.out) | exact HB.out))); (case aF => exact (fun _ _ => trivial)); (case aO => exact (by (with_reducible repeat (first | apply Kd.R_alloc | apply Kd.R_drewN | apply Kd.R_drew)); exact HO_7.out)); (case aS => exact (below_size (by repeat (first | (with_reducible first | exact HB.out | apply below_alloc | apply pw_below_drewN | apply below_drew1 | refine below_set ?_ GE221.out | refine below_set ?_ GE229.out) | exact HB.out)))); (case aL => have := LMc31.out; omega); intro v233 wx49f71 ho hb hg hat; rw [← Ny232.out] at ho; have n0_ := Aside0.mk (blk_grown (g := gb221) (o := .cells #[.slice A0_0 l0_0.length c0_0, .slice (some ad228) l0_1.length c0_1] 25 (0, 0)) (by (with_reducible repeat (first | refine blk_drewN ?_ _ | refine blk_drew ?_ | refine blk_alloc ?_ _)); exact BK221.out) hg (Kd.R_ne HO_7.out BK221.out (by decide))); have n1_ := Aside0.mk (blk_grown (g := gb229) (o := .cells #[.string ((rd_T48 l0_1 x23_1).f0), .slice (some ad231) ((rd_T48 l0_1 x23_1).f1).length c228_1] 48 (0, 0)) (by (with_reducible repeat (first | refine blk_drewN ?_ _ | refine blk_drew ?_ | refine blk_alloc ?_ _)); exact BK229.out) hg (Kd.R_ne HO_7.out BK229.out (by decide))); have n2_ := Aside0.mk (hb); have n3_ := Aside0.mk (ho); clear BK221; clear BK229; clear HB; clear HO_7; have BK221 := n0_; have BK229 := n1_; have HB := n2_; have HO234 := n3_; clear n0_ n1_ n2_ n3_; clear ho hb hg hat; have hczx49f71 : wx49f71.cell? ⟨gb229, 0, none⟩ = some (.string ((rd_T48 l0_1 x23_1).f0)) := (blk_cell BK229.out 0).trans rfl; have hczx49f72 : wx49f71.cell? ⟨gb229, 1, none⟩ = some (.slice (some ad231) ((rd_T48 l0_1 x23_1).f1).length c228_1) := (blk_cell BK229.out 1).trans rfl; have hfzx49f71 := blk_frozen BK229.out 0; have hfzx49f72 := blk_frozen BK229.out 1; have p235 : 0 ≤ ((ji33) : Int) := of_decide_eq_true (by first | (with_reducible assumption) | assumption); have q235 : (ji33) < (((rd_T48 l0_1 x23_1).f1).length : Int) := of_decide_eq_true (by first | (with_reducible assumption) | assumption); obtain ⟨ad235, e235, hx235_0⟩ := Kd.at_string HR228_1.out (ji33) p235 q235; obtain rfl : ad231 = ad235 := (by injection e235); replace hx235_0 := (HB.out.cell (World.block_lt_of_cell? w _ hx235_0)).trans hx235_0; replace p235 := eq_true p235; replace q235 := eq_true q235) | ((with_reducible refine gate_builtin (b := .append) (xs := #[.tmp 35, .tmp 42]) rfl ?_); at_builtin; refine Kd.R_append Kd.string (w0 := w) w.heap.size rfl (.tmp 35) (.tmp 42) 27 9 (.string ⟨#[]⟩) 16 rfl Try.underlying27 info9 rfl (by decide) (by omega) u7 x7_1 (rdOf ByteArray.empty ((rd_T48 l0_1 x23_1).f1) (ji28)) [.string (rdOf ByteArray.empty ((rd_T48 l0_1 x23_1).f1) (ji28))] (fun _ => True) (fun _ => False) rfl rfl ?aP (fun _ hk => hk.elim) ?aF ?aO ?aB ?aS ?aL ?_; (case aP => exact rfl); (case aB => exact (by repeat (first | (with_reducible first | exact HB.out | apply below_alloc | apply pw_below_drewN | apply below_drew1 | refine below_set ?_ GE221.out | refine below_set ?_ GE229.out) | exact HB.out))); (case aF => exact (fun _ _ => trivial)); (case aO => exact (by (with_reducible repeat (first | apply Kd.R_alloc | apply Kd.R_drewN | apply Kd.R_drew)); exact HO_7.out)); (case aS => exact (below_size (by repeat (first | (with_reducible first | exact HB.out | apply below_alloc | apply pw_below_drewN | apply below_drew1 | refine below_set ?_ GE221.out | refine below_set ?_ GE229.out) | exact HB.out)))); (case aL => have := LMc31.out; omega); intro v233 wxecc01 ho hb hg hat; rw [← Ny232.out] at ho; have n0_ := Aside0.mk (blk_grown (g := gb221) (o := .cells #[.slice A0_0 l0_0.length c0_0, .slice (some ad228) l0_1.length c0_1] 25 (0, 0)) (by (with_reducible repeat (first | refine blk_drewN ?_ _ | refine blk_drew ?_ | refine blk_alloc ?_ _)); exact BK221.out) hg (Kd.R_ne HO_7.out BK221.out (by decide))); have n1_ := Aside0.mk (blk_grown (g := gb229) (o := .cells #[.string ((rd_T48 l0_1 x23_1).f0), .slice (some ad231) ((rd_T48 l0_1 x23_1).f1).length c228_1] 48 (0, 0)) (by (with_reducible repeat (first | refine blk_drewN ?_ _ | refine blk_drew ?_ | refine blk_alloc ?_ _)); exact BK229.out) hg (Kd.R_ne HO_7.out BK229.out (by decide))); have n2_ := Aside0.mk (hb); have n3_ := Aside0.mk (ho); clear BK221; clear BK229; clear HB; clear HO_7; have BK221 := n0_; have BK229 := n1_; have HB := n2_; have HO234 := n3_; clear n0_ n1_ n2_ n3_; clear ho hb hg hat; have hczxecc01 : wxecc01.cell? ⟨gb229, 0, none⟩ = some (.string ((rd_T48 l0_1 x23_1).f0)) := (blk_cell BK229.out 0).trans rfl; have hczxecc02 : wxecc01.cell? ⟨gb229, 1, none⟩ = some (.slice (some ad231) ((rd_T48 l0_1 x23_1).f1).length c228_1) := (blk_cell BK229.out 1).trans rfl; have hfzxecc01 := blk_frozen BK229.out 0; have hfzxecc02 := blk_frozen BK229.out 1) | ((with_reducible refine gate_builtin (b := .append) (xs := #[.tmp 50, .tmp 57]) rfl ?_); at_builtin; refine Kd.R_append Kd.string (w0 := w) w.heap.size rfl (.tmp 50) (.tmp 57) 27 9 (.string ⟨#[]⟩) 16 rfl Try.underlying27 info9 rfl (by decide) (by omega) v233 y232 (rdOf ByteArray.empty ((rd_T48 l0_1 x23_1).f1) (ji33)) [.string (rdOf ByteArray.empty ((rd_T48 l0_1 x23_1).f1) (ji33))] (fun _ => True) (fun _ => False) rfl rfl ?aP (fun _ hk => hk.elim) ?aF ?aO ?aB ?aS ?aL ?_; (case aP => exact rfl); (case aB => exact (by repeat (first | (with_reducible first | exact HB.out | apply below_alloc | apply pw_below_drewN | apply below_drew1 | refine below_set ?_ GE221.out | refine below_set ?_ GE229.out) | exact HB.out))); (case aF => exact (fun _ _ => trivial)); (case aO => exact (by (with_reducible repeat (first | apply Kd.R_alloc | apply Kd.R_drewN | apply Kd.R_drew)); exact HO234.out)); (case aS => exact (below_size (by repeat (first | (with_reducible first | exact HB.out | apply below_alloc | apply pw_below_drewN | apply below_drew1 | refine below_set ?_ GE221.out | refine below_set ?_ GE229.out) | exact HB.out)))); (case aL => have := LMc35.out; omega); intro v237 wxe9de1 ho hb hg hat; rw [← Ny236.out] at ho; have n0_ := Aside0.mk (blk_grown (g := gb221) (o := .cells #[.slice A0_0 l0_0.length c0_0, .slice (some ad228) l0_1.length c0_1] 25 (0, 0)) (by (with_reducible repeat (first | refine blk_drewN ?_ _ | refine blk_drew ?_ | refine blk_alloc ?_ _)); exact BK221.out) hg (Kd.R_ne HO234.out BK221.out (by decide))); have n1_ := Aside0.mk (blk_grown (g := gb229) (o := .cells #[.string ((rd_T48 l0_1 x23_1).f0), .slice (some ad231) ((rd_T48 l0_1 x23_1).f1).length c228_1] 48 (0, 0)) (by (with_reducible repeat (first | refine blk_drewN ?_ _ | refine blk_drew ?_ | refine blk_alloc ?_ _)); exact BK229.out) hg (Kd.R_ne HO234.out BK229.out (by decide))); have n2_ := Aside0.mk (hb); have n3_ := Aside0.mk (ho); clear BK221; clear BK229; clear HB; clear HO234; have BK221 := n0_; have BK229 := n1_; have HB := n2_; have HO238 := n3_; clear n0_ n1_ n2_ n3_; clear ho hb hg hat) | ((with_reducible refine gate_builtin (b := .append) (xs := #[.tmp 50, .tmp 57]) rfl ?_); at_builtin; refine Kd.R_append Kd.string (w0 := w) w.heap.size rfl (.tmp 50) (.tmp 57) 27 9 (.string ⟨#[]⟩) 16 rfl Try.underlying27 info9 rfl (by decide) (by omega) u7 x7_1 (rdOf ByteArray.empty ((rd_T48 l0_1 x23_1).f1) (ji52)) [.string (rdOf ByteArray.empty ((rd_T48 l0_1 x23_1).f1) (ji52))] (fun _ => True) (fun _ => False) rfl rfl ?aP (fun _ hk => hk.elim) ?aF ?aO ?aB ?aS ?aL ?_; (case aP => exact rfl); (case aB => exact (by repeat (first | (with_reducible first | exact HB.out | apply below_alloc | apply pw_below_drewN | apply below_drew1 | refine below_set ?_ GE221.out | refine below_set ?_ GE229.out) | exact HB.out))); (case aF => exact (fun _ _ => trivial)); (case aO => exact (by (with_reducible repeat (first | apply Kd.R_alloc | apply Kd.R_drewN | apply Kd.R_drew)); exact HO_7.out)); (case aS => exact (below_size (by repeat (first | (with_reducible first | exact HB.out | apply below_alloc | apply pw_below_drewN | apply below_drew1 | refine below_set ?_ GE221.out | refine below_set ?_ GE229.out) | exact HB.out)))); (case aL => have := LMc54.out; omega); intro v241 wx60db1 ho hb hg hat; rw [← Ny240.out] at ho; have n0_ := Aside0.mk (blk_grown (g := gb221) (o := .cells #[.slice A0_0 l0_0.length c0_0, .slice (some ad228) l0_1.length c0_1] 25 (0, 0)) (by (with_reducible repeat (first | refine blk_drewN ?_ _ | refine blk_drew ?_ | refine blk_alloc ?_ _)); exact BK221.out) hg (Kd.R_ne HO_7.out BK221.out (by decide))); have n1_ := Aside0.mk (blk_grown (g := gb229) (o := .cells #[.string ((rd_T48 l0_1 x23_1).f0), .slice (some ad239) ((rd_T48 l0_1 x23_1).f1).length c228_1] 48 (0, 0)) (by (with_reducible repeat (first | refine blk_drewN ?_ _ | refine blk_drew ?_ | refine blk_alloc ?_ _)); exact BK229.out) hg (Kd.R_ne HO_7.out BK229.out (by decide))); have n2_ := Aside0.mk (hb); have n3_ := Aside0.mk (ho); clear BK221; clear BK229; clear HB; clear HO_7; have BK221 := n0_; have BK229 := n1_; have HB := n2_; have HO242 := n3_; clear n0_ n1_ n2_ n3_; clear ho hb hg hat))
           first
            | clear hm4_0
              go_roundg k1
              case measure => have := HK1.out; omega
              case rel => exact ⟨(x7_1), (wrap64 (x23_1 + 1)), (by first | rfl | (simp; done) | (simp [*]; done)), H', ⟨by have := HK1.out; omega⟩, ⟨by (with_reducible repeat (first | apply Kd.R_alloc | apply Kd.R_drewN | apply Kd.R_drew)); exact HO_7.out⟩, ⟨by (with_reducible repeat (first | refine blk_drewN ?_ _ | refine blk_drew ?_ | refine blk_alloc ?_ _)); exact BK221.out⟩, ⟨by repeat (first | (with_reducible first | exact HB.out | apply below_alloc | apply pw_below_drewN | apply below_drew1 | refine below_set ?_ GE221.out | refine below_set ?_ GE229.out) | exact HB.out)⟩⟩
            | clear hm4_1
              first | go_roundg k1 | (subst hji28; subst hji33; go_roundg k1)
              case measure => have := HK1.out; omega
              case rel => exact ⟨(y236), (wrap64 (x23_1 + 1)), (by first | rfl | (simp; done) | (simp [*]; done)), H', ⟨by have := HK1.out; omega⟩, ⟨by (with_reducible repeat (first | apply Kd.R_alloc | apply Kd.R_drewN | apply Kd.R_drew)); exact HO238.out⟩, ⟨by (with_reducible repeat (first | refine blk_drewN ?_ _ | refine blk_drew ?_ | refine blk_alloc ?_ _)); exact BK221.out⟩, ⟨by repeat (first | (with_reducible first | exact HB.out | apply below_alloc | apply pw_below_drewN | apply below_drew1 | refine below_set ?_ GE221.out | refine below_set ?_ GE229.out) | exact HB.out)⟩⟩
            | clear hm4_2
              first | go_roundg k1 | (subst hji28; go_roundg k1)
              case measure => have := HK1.out; omega
              case rel => exact ⟨(y232), (wrap64 (x23_1 + 1)), (by first | rfl | (simp; done) | (simp [*]; done)), H', ⟨by have := HK1.out; omega⟩, ⟨by (with_reducible repeat (first | apply Kd.R_alloc | apply Kd.R_drewN | apply Kd.R_drew)); exact HO234.out⟩, ⟨by (with_reducible repeat (first | refine blk_drewN ?_ _ | refine blk_drew ?_ | refine blk_alloc ?_ _)); exact BK221.out⟩, ⟨by repeat (first | (with_reducible first | exact HB.out | apply below_alloc | apply pw_below_drewN | apply below_drew1 | refine below_set ?_ GE221.out | refine below_set ?_ GE229.out) | exact HB.out)⟩⟩
            | clear hm4_3
              first | go_roundg k1 | (subst hji52; go_roundg k1)
              case measure => have := HK1.out; omega
              case rel => exact ⟨(y240), (wrap64 (x23_1 + 1)), (by first | rfl | (simp; done) | (simp [*]; done)), H', ⟨by have := HK1.out; omega⟩, ⟨by (with_reducible repeat (first | apply Kd.R_alloc | apply Kd.R_drewN | apply Kd.R_drew)); exact HO242.out⟩, ⟨by (with_reducible repeat (first | refine blk_drewN ?_ _ | refine blk_drew ?_ | refine blk_alloc ?_ _)); exact BK221.out⟩, ⟨by repeat (first | (with_reducible first | exact HB.out | apply below_alloc | apply pw_below_drewN | apply below_drew1 | refine below_set ?_ GE221.out | refine below_set ?_ GE229.out) | exact HB.out)⟩⟩
         | clear hm4_4
           go_wp2_with (first | ((with_reducible refine gate_callee (f := 60) rfl ?_); refine goesL_ (some 61) rfl rfl Try.func60 (by kernel_rfl) rfl #[.slice Aoza1 x7_1.length coza1] rfl (by (try simp only [List.map_toArray, List.map_cons, List.map_nil]); first | done | rfl | (simp only [List.length_drop, List.length_take]; rfl)) ?_; (with_reducible refine (slices_Sort_string_string.calls (fun k_ => some k_ = (.slice Aoza1 x7_1.length coza1 : Value).ownBlock) (.slice Aoza1 x7_1.length coza1) x7_1 t224 w _ ?side1 ?side2 A66.out).mono ?_); (case side1 => repeat (first | (with_reducible first | exact HB.out | apply below_alloc | apply pw_below_drewN | apply below_drew1 | refine below_set ?_ GE221.out) | exact HB.out)); (case side2 => exact Kd.R_tight rfl HO_7.out); rintro e wx0b6d1 ⟨rfl, hy0, hb, hkp⟩; refine ⟨_, rfl, ?_⟩; have n0_ := Aside0.mk (Kd.R_reok rfl hy0 (fun k_ e_ => HO_7.out.1 k_ e_)); have n1_ := Aside0.mk (blk_kept (by (with_reducible repeat (first | refine blk_drewN ?_ _ | refine blk_drew ?_ | refine blk_alloc ?_ _)); exact BK221.out) hkp (fun hs_ => (fun e_ => (Kd.R_ne HO_7.out BK221.out (by decide)) e_) hs_)); have n2_ := Aside0.mk (hb); clear HO_7; clear BK221; clear HB; have HO_7 := n0_; have BK221 := n1_; have HB := n2_; clear n0_ n1_ n2_; (try clear hb); (try clear hkp); (try clear hy0)) | ((with_reducible refine gate_callee (f := 61) rfl ?_); refine goesL_ (some 63) rfl rfl Try.func61 (by kernel_rfl) rfl #[.slice Aoza1 x7_1.length coza1] rfl (by (try simp only [List.map_toArray, List.map_cons, List.map_nil]); first | done | rfl | (simp only [List.length_drop, List.length_take]; rfl)) ?_; (with_reducible refine (slices_Compact_string_string.calls (fun k_ => some k_ = (.slice Aoza1 x7_1.length coza1 : Value).ownBlock) (.slice Aoza1 x7_1.length coza1) t224 t225 w _ ?side1 ?side2 A67.out).mono ?_); (case side1 => repeat (first | (with_reducible first | exact HB.out | apply below_alloc | apply pw_below_drewN | apply below_drew1 | refine below_set ?_ GE221.out) | exact HB.out)); (case side2 => exact Kd.R_tight rfl HO_7.out); rintro e wx4ae41 ⟨v226, rfl, hox4ae41, hb, hkp⟩; refine ⟨_, rfl, ?_⟩; have n0_ := Aside0.mk (blk_kept (by (with_reducible repeat (first | refine blk_drewN ?_ _ | refine blk_drew ?_ | refine blk_alloc ?_ _)); exact BK221.out) hkp (fun hs_ => (fun e_ => (Kd.R_ne HO_7.out BK221.out (by decide)) e_) hs_)); have n1_ := Aside0.mk (Kd.R_mono (ok' := fun k_ => True) hox4ae41 (fun k_ hk_ => trivial)); have n2_ := Aside0.mk (hb); clear BK221; clear HB; clear HO_7; have BK221 := n0_; have HO227 := n1_; have HB := n2_; clear n0_ n1_ n2_; (try clear hb); (try clear hkp); (try clear hox4ae41)))
           go_ret2
           exact ⟨_, by first | rfl | (simp [errW_none, errW_some] <;> rfl) | (simp [*, errW_none, errW_some] <;> rfl), by (with_reducible repeat (first | apply Kd.R_alloc | apply Kd.R_drewN | apply Kd.R_drew)); exact HO227.out, by repeat (first | (with_reducible first | exact HB.out | apply below_alloc | apply pw_below_drewN | apply below_drew1 | refine below_set ?_ GE221.out) | exact HB.out)⟩

/-! ### skywayref1_HasText: function 22 -/
def skywayref1_HasText.l0 : Nat → ByteArray → List ByteArray → Int → Int → Option (Bool)
  | 0, _, _, _, _ => none
  | k + 1, x1, x7, x8, x9 => if x9 < x8 then (if 0 ≤ x9 then (if x9 < (x7.length : Int) then (if (rdOf ByteArray.empty x7 x9).toList = x1.toList then (some true) else (skywayref1_HasText.l0 k x1 x7 x8 (wrap64 (x9 + 1)))) else (none)) else (none)) else (some false)
def skywayref1_HasText.f (k : Nat) (l0 : List ByteArray) (a1 : ByteArray) : Option (Bool) := skywayref1_HasText.l0 k a1 l0 (l0.length : Int) 0
theorem skywayref1_HasText.mono_l : ∀ k, (∀ y0 y1 y2 y3, LeO (skywayref1_HasText.l0 k y0 y1 y2 y3) (skywayref1_HasText.l0 (k + 1) y0 y1 y2 y3))
  | 0 => fun _ _ _ _ r h => by simp [skywayref1_HasText.l0] at h
  | k + 1 => by
    have ih0 := skywayref1_HasText.mono_l k
    · intro y0 y1 y2 y3
      unfold skywayref1_HasText.l0
      repeat' first
      | (with_reducible exact ih0 _ _ _ _)
      | (with_reducible exact LeO.refl _)
      | (with_reducible exact LeO.none _)
      | (with_reducible refine LeO.ite ?_ ?_)
      | (with_reducible refine LeO.bind ?_ (fun _ => ?_))
      | exact ih0 _ _ _ _
      | exact LeO.none _
      | refine LeO.ite ?_ ?_
      | refine LeO.bind ?_ (fun _ => ?_)
theorem skywayref1_HasText.mono : ∀ a0 a1 k, LeO (skywayref1_HasText.f k a0 a1) (skywayref1_HasText.f (k + 1) a0 a1) := by
  intro a0 a1 k
  have ih0 := skywayref1_HasText.mono_l k
  unfold skywayref1_HasText.f
  repeat' first
      | (with_reducible exact ih0 _ _ _ _)
      | (with_reducible exact LeO.refl _)
      | (with_reducible exact LeO.none _)
      | (with_reducible refine LeO.ite ?_ ?_)
      | (with_reducible refine LeO.bind ?_ (fun _ => ?_))
      | exact ih0 _ _ _ _
      | exact LeO.none _
      | refine LeO.ite ?_ ?_
      | refine LeO.bind ?_ (fun _ => ?_)
set_option maxHeartbeats 8000000 in
set_option maxRecDepth 100000 in
theorem skywayref1_HasText.calls (k : Nat) (A0 : Option Addr) (c0 : Nat) (l0 : List ByteArray) (a1 : ByteArray) (r : Bool) (w : World) (hr0 : Kd.C Kd.string w A0 l0.length l0) (hc0 : l0.length ≤ c0) (h : skywayref1_HasText.f k l0 a1 = some r) :
    Calls Try.prog 22 #[.slice A0 l0.length c0, .string a1] w fun e w' => e = .returned (.bool r) ∧ Below w.heap.size w w' := by
  have HR0 := Aside0.mk hr0
  have HC0 := Aside0.mk hc0
  clear hr0 hc0
  have HB := Aside0.mk (Below.refl w.heap.size w)
  have H : (skywayref1_HasText.l0 k a1 l0 (l0.length : Int) 0) = some r := h
  clear h
  have H' := Aside0.mk H
  clear H
  go_enter Try.func22, Try.ntmps22
  go_wp2
  go_loopg [9] k (fun kq v9 w' => ∃ (x9_1 : Int), v9 = .int .i64 x9_1 ∧ Aside0 (skywayref1_HasText.l0 kq a1 l0 (l0.length : Int) x9_1 = some r) ∧ Aside0 (kq ≤ k) ∧ Aside0 (Below w.heap.size w w'))
  case atStart => exact ⟨(0), (by first | rfl | (simp; done) | (simp [*]; done)), H', ⟨Nat.le_refl _⟩, ⟨by repeat (first | (with_reducible first | exact HB.out | apply below_alloc | apply pw_below_drewN | apply below_drew1) | exact HB.out)⟩⟩
  case round =>
    clear H'
    try clear c2
    try clear p2
    obtain ⟨x9_1, rfl, HA, HK1, HB⟩ := hrel
    cases gk with
    | zero => exact absurd HA.out (by simp [skywayref1_HasText.l0])
    | succ k1 =>
      have H := HA.out
      clear HA
      simp only [skywayref1_HasText.l0] at H
      by_cases c3 : x9_1 < (l0.length : Int)
      · rw [if_pos c3] at H
        have c3b0 : decide (x9_1 < (l0.length : Int)) = true := decide_eq_true c3
        clear c3
        by_cases c4 : 0 ≤ x9_1
        · rw [if_pos c4] at H
          have c4b0 : decide (0 ≤ x9_1) = true := decide_eq_true c4
          clear c4
          by_cases c5 : x9_1 < (l0.length : Int)
          · rw [if_pos c5] at H
            have c5b0 : decide (x9_1 < (l0.length : Int)) = true := decide_eq_true c5
            clear c5
            by_cases c6 : (rdOf ByteArray.empty l0 x9_1).toList = a1.toList
            · rw [if_pos c6] at H
              have c6b0 : ((rdOf ByteArray.empty l0 x9_1).toList == a1.toList) = true := beq_iff_eq.mpr c6
              have c6b1 : ((rdOf ByteArray.empty l0 x9_1).toList != a1.toList) = false := bne_eq_false_iff_eq.mpr c6
              clear c6
              obtain rfl := Option.some.inj H
              have p243 : 0 ≤ (x9_1 : Int) := of_decide_eq_true (by first | (with_reducible assumption) | assumption)
              have q243 : x9_1 < (l0.length : Int) := of_decide_eq_true (by first | (with_reducible assumption) | assumption)
              obtain ⟨ad243, e243, hx243_0⟩ := Kd.at_string HR0.out x9_1 p243 q243
              cases e243
              replace hx243_0 := (HB.out.cell (World.block_lt_of_cell? w _ hx243_0)).trans hx243_0
              replace p243 := eq_true p243
              replace q243 := eq_true q243
              go_wp2
              go_ret
              exact ⟨by first | rfl | (simp [errW_none, errW_some] <;> rfl) | (simp [*, errW_none, errW_some] <;> rfl), by repeat (first | (with_reducible first | exact HB.out | apply below_alloc | apply pw_below_drewN | apply below_drew1) | exact HB.out)⟩
            · rw [if_neg c6] at H
              have c6b0 : ((rdOf ByteArray.empty l0 x9_1).toList == a1.toList) = false := beq_eq_false_iff_ne.mpr c6
              have c6b1 : ((rdOf ByteArray.empty l0 x9_1).toList != a1.toList) = true := bne_iff_ne.mpr c6
              have H' := Aside0.mk H
              clear H
              have p243 : 0 ≤ (x9_1 : Int) := of_decide_eq_true (by first | (with_reducible assumption) | assumption)
              have q243 : x9_1 < (l0.length : Int) := of_decide_eq_true (by first | (with_reducible assumption) | assumption)
              obtain ⟨ad243, e243, hx243_0⟩ := Kd.at_string HR0.out x9_1 p243 q243
              cases e243
              replace hx243_0 := (HB.out.cell (World.block_lt_of_cell? w _ hx243_0)).trans hx243_0
              replace p243 := eq_true p243
              replace q243 := eq_true q243
              go_wp2
              go_roundg k1
              case measure => have := HK1.out; omega
              case rel => exact ⟨(wrap64 (x9_1 + 1)), (by first | rfl | (simp; done) | (simp [*]; done)), H', ⟨by have := HK1.out; omega⟩, ⟨by repeat (first | (with_reducible first | exact HB.out | apply below_alloc | apply pw_below_drewN | apply below_drew1) | exact HB.out)⟩⟩
          · rw [if_neg c5] at H
            exact absurd H (by simp)
        · rw [if_neg c4] at H
          exact absurd H (by simp)
      · rw [if_neg c3] at H
        have c3b0 : decide (x9_1 < (l0.length : Int)) = false := decide_eq_false c3
        clear c3
        obtain rfl := Option.some.inj H
        go_wp2
        go_ret
        exact ⟨by first | rfl | (simp [errW_none, errW_some] <;> rfl) | (simp [*, errW_none, errW_some] <;> rfl), by repeat (first | (with_reducible first | exact HB.out | apply below_alloc | apply pw_below_drewN | apply below_drew1) | exact HB.out)⟩

end Go.Proofs.Ytbpbpojnfhhbjaa.PChartLinks
