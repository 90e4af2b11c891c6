/- Made by a program of this session (wip/tools/myprint.py, over the kit's printer): that the Go functions answer as the Lean functions printed beside them. -/
import Derived.Test.YtbpbpojnfhhbjaaPChartNearx0
import Derived.Test.YtbpbpojnfhhbjaaPChartNearx5
import Derived.Test.YtbpbpojnfhhbjaaPChartNearx6
import Derived.Test.YtbpbpojnfhhbjaaPChartNearx7
namespace Go.Proofs.Ytbpbpojnfhhbjaa.PChartNear
open Go.RowKit Go.Proofs.YtbpbpojnfhhbjaaW.PrintWords Go.Proofs.YtbpbpojnfhhbjaaW.PrintLast Go.Proofs.YtbpbpojnfhhbjaaW.PrintMore
attribute [local go_sem] max2_int min2_int max_two min_two max_three min_three max_four min_four   -- for this text's walks alone
set_option linter.unusedVariables false
set_option linter.unusedSimpArgs false

/-! ### skywaykeep1_ChartNear: function 5 -/
def skywaykeep1_ChartNear.l0 : Nat → ByteArray → Int → List (S40) → Int → Int → Int → Int → ByteArray → Int → Int → Option (Bool)
  | 0, _, _, _, _, _, _, _, _, _, _ => none
  | k + 1, x5, x8, x32, x33, x34, x235000, x235001, x243000, x243001, x243002 => if x34 < x33 then (if 0 ≤ x34 then (if x34 < (x32.length : Int) then ((plane_Square.f ((rd_T40 x32 x34).f1.f0) ((rd_T40 x32 x34).f1.f1) x235000 x235001).bind fun t245 => ((plane_Square.f x243001 x243002 x235000 x235001).bind fun t246 => (if t245 < t246 then (some false) else (if t245 = t246 then (if (Op.bytesLess (((rd_T40 x32 x34).f0).toList) x5.toList) = true then (some false) else (skywaykeep1_ChartNear.l0 k x5 x8 x32 x33 (wrap64 (x34 + 1)) x235000 x235001 x243000 x243001 x243002)) else (skywaykeep1_ChartNear.l0 k x5 x8 x32 x33 (wrap64 (x34 + 1)) x235000 x235001 x243000 x243001 x243002))))) else (none)) else (none)) else (if x8 = 0 then (some (x243000.toList == x5.toList)) else (some false))
def skywaykeep1_ChartNear.f (k : Nat) (l0_0 : List (S40)) (l0_1 : List (S48)) (a1_0 : Int) (a1_1 : Int) : Option (Bool) := (skywaykeep1_chartWorks.f k).bind fun t235 => (if t235 = true then ((chart_Near.f k l0_0 l0_1 a1_0 a1_1).bind fun bt236 => (if bt236.2 = 0 then ((chart_Find.f k l0_0 l0_1 bt236.1).bind fun bt238 => (skywaykeep1_ChartNear.l0 k bt236.1 bt238.2.2.2 l0_0 (l0_0.length : Int) 0 a1_0 a1_1 bt238.1 bt238.2.1 bt238.2.2.1)) else (some (bt236.1.toList == ([] : List UInt8))))) else (some false))
theorem skywaykeep1_ChartNear.mono_l : ∀ k, (∀ y0 y1 y2 y3 y4 y5 y6 y7 y8 y9, LeO (skywaykeep1_ChartNear.l0 k y0 y1 y2 y3 y4 y5 y6 y7 y8 y9) (skywaykeep1_ChartNear.l0 (k + 1) y0 y1 y2 y3 y4 y5 y6 y7 y8 y9))
  | 0 => fun _ _ _ _ _ _ _ _ _ _ r h => by simp [skywaykeep1_ChartNear.l0] at h
  | k + 1 => by
    have ih0 := skywaykeep1_ChartNear.mono_l k
    · intro y0 y1 y2 y3 y4 y5 y6 y7 y8 y9
      unfold skywaykeep1_ChartNear.l0
      repeat' first
      | (with_reducible exact ih0 _ _ _ _ _ _ _ _ _ _)
      | (with_reducible exact chart_Find.mono _ _ _ _)
      | (with_reducible exact chart_Near.mono _ _ _ _ _)
      | (with_reducible exact skywaykeep1_chartWorks.mono _)
      | (with_reducible exact LeO.refl _)
      | (with_reducible exact LeO.none _)
      | (with_reducible refine LeO.ite ?_ ?_)
      | (with_reducible refine LeO.bind ?_ (fun _ => ?_))
      | exact ih0 _ _ _ _ _ _ _ _ _ _
      | exact chart_Find.mono _ _ _ _
      | exact chart_Near.mono _ _ _ _ _
      | exact skywaykeep1_chartWorks.mono _
      | exact LeO.none _
      | refine LeO.ite ?_ ?_
      | refine LeO.bind ?_ (fun _ => ?_)
theorem skywaykeep1_ChartNear.mono : ∀ a0 a1 a2 a3 k, LeO (skywaykeep1_ChartNear.f k a0 a1 a2 a3) (skywaykeep1_ChartNear.f (k + 1) a0 a1 a2 a3) := by
  intro a0 a1 a2 a3 k
  have ih0 := skywaykeep1_ChartNear.mono_l k
  unfold skywaykeep1_ChartNear.f
  repeat' first
      | (with_reducible exact ih0 _ _ _ _ _ _ _ _ _ _)
      | (with_reducible exact chart_Find.mono _ _ _ _)
      | (with_reducible exact chart_Near.mono _ _ _ _ _)
      | (with_reducible exact skywaykeep1_chartWorks.mono _)
      | (with_reducible exact LeO.refl _)
      | (with_reducible exact LeO.none _)
      | (with_reducible refine LeO.ite ?_ ?_)
      | (with_reducible refine LeO.bind ?_ (fun _ => ?_))
      | exact ih0 _ _ _ _ _ _ _ _ _ _
      | exact chart_Find.mono _ _ _ _
      | exact chart_Near.mono _ _ _ _ _
      | exact skywaykeep1_chartWorks.mono _
      | exact LeO.none _
      | refine LeO.ite ?_ ?_
      | refine LeO.bind ?_ (fun _ => ?_)
def skywaykeep1_ChartNear.T10 : Bool × List (List Nat × List Nat) := (true, [([], []), ([0], [0]), ([], []), ([1, 2], [1, 2]), ([], []), ([4], [4]), ([], []), ([5, 6, 3], [5, 6]), ([3, 7, 0, 1, 2, 3], [3]), ([7, 8, 0, 1, 2, 3, 4, 5, 6, 7, 8], [7])])
def skywaykeep1_ChartNear.B10 : List Nat := [0, 1, 0, 7, 0, 16, 0, 127, 255, 511]
theorem skywaykeep1_ChartNear.tab10 : rtab .any (opsOf Try.f5 10) = skywaykeep1_ChartNear.T10 := by kernel_rfl
theorem skywaykeep1_ChartNear.bits10 : waitsOk skywaykeep1_ChartNear.T10.2 skywaykeep1_ChartNear.B10 = true := by kernel_rfl
set_option maxHeartbeats 8000000 in
set_option maxRecDepth 100000 in
theorem skywaykeep1_ChartNear.calls (k : Nat) (A0_0 : Option Addr) (c0_0 : Nat) (l0_0 : List (S40)) (A0_1 : Option Addr) (c0_1 : Nat) (l0_1 : List (S48)) (a1_0 : Int) (a1_1 : Int) (r : Bool) (w : World) (hr0_0 : Kd.C k40 w A0_0 l0_0.length l0_0) (hc0_0 : l0_0.length ≤ c0_0) (hr0_1 : Kd.C k48 w A0_1 l0_1.length l0_1) (hc0_1 : l0_1.length ≤ c0_1) (h : skywaykeep1_ChartNear.f k l0_0 l0_1 a1_0 a1_1 = some r) :
    Calls Try.prog 5 #[.agg #[.slice A0_0 l0_0.length c0_0, .slice A0_1 l0_1.length c0_1], .agg #[.int .i64 a1_0, .int .i64 a1_1]] w fun e w' => e = .returned (.bool r) ∧ Below w.heap.size w w' := by
 have hu25 := Try.underlying25
 have hu36 := Try.underlying36
 have hu40 := Try.underlying40
 have HR0_0 := Aside0.mk hr0_0
 have HC0_0 := Aside0.mk hc0_0
 clear hr0_0 hc0_0
 have HR0_1 := Aside0.mk hr0_1
 have HC0_1 := Aside0.mk hc0_1
 clear hr0_1 hc0_1
 have HB := Aside0.mk (Below.refl w.heap.size w)
 have H : ((skywaykeep1_chartWorks.f k).bind fun t235 => (if t235 = true then ((chart_Near.f k l0_0 l0_1 a1_0 a1_1).bind fun bt236 => (if bt236.2 = 0 then ((chart_Find.f k l0_0 l0_1 bt236.1).bind fun bt238 => (skywaykeep1_ChartNear.l0 k bt236.1 bt238.2.2.2 l0_0 (l0_0.length : Int) 0 a1_0 a1_1 bt238.1 bt238.2.1 bt238.2.2.1)) else (some (bt236.1.toList == ([] : List UInt8))))) else (some false))) = some r := h
 clear h
 replace H := Option.bind_eq_some_iff.mp H
 obtain ⟨t235, A30, H⟩ := H
 replace H : (if t235 = true then ((chart_Near.f k l0_0 l0_1 a1_0 a1_1).bind fun bt236 => (if bt236.2 = 0 then ((chart_Find.f k l0_0 l0_1 bt236.1).bind fun bt238 => (skywaykeep1_ChartNear.l0 k bt236.1 bt238.2.2.2 l0_0 (l0_0.length : Int) 0 a1_0 a1_1 bt238.1 bt238.2.1 bt238.2.2.1)) else (some (bt236.1.toList == ([] : List UInt8))))) else (some false)) = some r := H
 have A3 := Aside0.mk A30
 clear A30
 refine Or.elim (Classical.em (t235 = true)) (fun c4 => ?p2_) (fun c4 => ?n2_)
 case' p2_ =>
  subst c4
  have H1 : ((chart_Near.f k l0_0 l0_1 a1_0 a1_1).bind fun bt236 => (if bt236.2 = 0 then ((chart_Find.f k l0_0 l0_1 bt236.1).bind fun bt238 => (skywaykeep1_ChartNear.l0 k bt236.1 bt238.2.2.2 l0_0 (l0_0.length : Int) 0 a1_0 a1_1 bt238.1 bt238.2.1 bt238.2.2.1)) else (some (bt236.1.toList == ([] : List UInt8))))) = some r := by rw [if_pos rfl] at H; exact H
  clear H
  have H := H1
  clear H1
  replace H := Option.bind_eq_some_iff.mp H
  obtain ⟨⟨t236, t237⟩, A50, H⟩ := H
  replace H : (if t237 = 0 then ((chart_Find.f k l0_0 l0_1 t236).bind fun bt238 => (skywaykeep1_ChartNear.l0 k t236 bt238.2.2.2 l0_0 (l0_0.length : Int) 0 a1_0 a1_1 bt238.1 bt238.2.1 bt238.2.2.1)) else (some (t236.toList == ([] : List UInt8)))) = some r := H
  have A5 := Aside0.mk A50
  clear A50
  refine Or.elim (Classical.em (t237 = 0)) (fun c6 => ?p3_) (fun c6 => ?n3_)
  case' p3_ =>
   rw [if_pos c6] at H
   have c6b0 : (t237 == 0) = true := beq_iff_eq.mpr c6
   have c6b1 : (t237 != 0) = false := bne_eq_false_iff_eq.mpr c6
   clear c6
   replace H := Option.bind_eq_some_iff.mp H
   obtain ⟨⟨t238, t239, t240, t241⟩, A70, H⟩ := H
   replace H : (skywaykeep1_ChartNear.l0 k t236 t241 l0_0 (l0_0.length : Int) 0 a1_0 a1_1 t238 t239 t240) = some r := H
   have A7 := Aside0.mk A70
   clear A70
   have hm1_0 := Aside0.mk trivial
  case' n3_ =>
   rw [if_neg c6] at H
   have c6b0 : (t237 == 0) = false := beq_eq_false_iff_ne.mpr c6
   have c6b1 : (t237 != 0) = true := bne_iff_ne.mpr c6
   have hm1_1 := Aside0.mk trivial
 case' n2_ =>
  replace c4 := Bool.eq_false_iff.mpr c4
  subst c4
  have H1 : (some false) = some r := by rw [if_neg (show ¬ (false = true) by decide)] at H; exact H
  clear H
  have H := H1
  clear H1
  have hm1_1 := Aside0.mk trivial
 all_goals
  first
   | clear hm1_0
     have H' := Aside0.mk H
     clear H
     go_enter Try.func5, Try.ntmps5
     go_wp2_with (first | ((with_reducible refine gate_dst (N := 2) rfl ?_); refine box_event ?hg (N := 2) ?hd (cs := #[.slice A0_0 l0_0.length c0_0, .slice A0_1 l0_1.length c0_1]) (t := 25) ?hr ?_; (case hd => rfl); (case hg => rfl); (case hr => first | (go_simp; done) | (go_simp; rfl)); intro gb233 hg wx007f1 hbox hb; have n0_ := Aside0.mk (below_step (by repeat (first | (with_reducible first | exact HB.out | apply below_alloc | apply pw_below_drewN | apply below_drew1) | exact HB.out)) hb); have n1_ := Aside0.mk (hbox); have n2_ := Aside0.mk ((by rw [hg]; exact (below_size (by repeat (first | (with_reducible first | exact HB.out | apply below_alloc | apply pw_below_drewN | apply below_drew1) | exact HB.out))) : w.heap.size ≤ gb233)); have n3_ := Aside0.mk ((by rw [hg]; exact (below_size (by repeat (first | (with_reducible first | exact HB.out | apply below_alloc | apply pw_below_drewN | apply below_drew1) | exact HB.out))) : w.heap.size ≤ gb233)); clear HB; have HB := n0_; have BK233 := n1_; have GW233 := n2_; have GE233 := n3_; clear n0_ n1_ n2_ n3_; clear hb hbox hg) | ((with_reducible refine gate_dst (N := 3) rfl ?_); refine box_event ?hg (N := 3) ?hd (cs := #[.int .i64 a1_0, .int .i64 a1_1]) (t := 36) ?hr ?_; (case hd => rfl); (case hg => rfl); (case hr => first | (go_simp; done) | (go_simp; rfl)); intro gb234 hg wx9a101 hbox hb; have n0_ := Aside0.mk (blk_below (g := gb233) (o := .cells #[.slice A0_0 l0_0.length c0_0, .slice A0_1 l0_1.length c0_1] 25 (0, 0)) (by (with_reducible repeat (first | refine blk_drewN ?_ _ | refine blk_drew ?_ | refine blk_alloc ?_ _)); exact BK233.out) hb); have n1_ := Aside0.mk (below_step (by repeat (first | (with_reducible first | exact HB.out | apply below_alloc | apply pw_below_drewN | apply below_drew1 | refine below_set ?_ GE233.out) | exact HB.out)) hb); have n2_ := Aside0.mk (hbox); have n3_ := Aside0.mk ((by rw [hg]; exact (below_size (by repeat (first | (with_reducible first | exact HB.out | apply below_alloc | apply pw_below_drewN | apply below_drew1 | refine below_set ?_ GE233.out) | exact HB.out))) : w.heap.size ≤ gb234)); have n4_ := Aside0.mk ((by rw [hg]; exact (below_size (by repeat (first | (with_reducible first | exact HB.out | apply below_alloc | apply pw_below_drewN | apply below_drew1 | refine below_set ?_ GE233.out) | exact HB.out))) : w.heap.size ≤ gb234)); have n5_ := Aside0.mk ((by rw [hg]; exact Nat.ne_of_lt (blk_lt (g := gb233) (o := .cells #[.slice A0_0 l0_0.length c0_0, .slice A0_1 l0_1.length c0_1] 25 (0, 0)) (by (with_reducible repeat (first | refine blk_drewN ?_ _ | refine blk_drew ?_ | refine blk_alloc ?_ _)); exact BK233.out)) : gb233 ≠ gb234)); have n6_ := Aside0.mk ((by rw [hg]; exact Nat.ne_of_gt (blk_lt (g := gb233) (o := .cells #[.slice A0_0 l0_0.length c0_0, .slice A0_1 l0_1.length c0_1] 25 (0, 0)) (by (with_reducible repeat (first | refine blk_drewN ?_ _ | refine blk_drew ?_ | refine blk_alloc ?_ _)); exact BK233.out)) : gb234 ≠ gb233)); clear BK233; clear HB; have BK233 := n0_; have HB := n1_; have BK234 := n2_; have GW234 := n3_; have GE234 := n4_; have NB233_234 := n5_; have NB234_233 := n6_; clear n0_ n1_ n2_ n3_ n4_ n5_ n6_; clear hb hbox hg) | ((with_reducible refine gate_callee (f := 15) rfl ?_); refine goesL_ (some 13) rfl rfl Try.func15 (by kernel_rfl) rfl #[] rfl (by (try simp only [List.map_toArray, List.map_cons, List.map_nil]); first | done | rfl | (simp only [List.length_drop, List.length_take]; rfl)) ?_; (with_reducible refine (skywaykeep1_chartWorks.calls k  true _ A3.out).mono ?_); rintro e wxc5201 ⟨rfl, hb⟩; refine ⟨_, rfl, ?_⟩; have n0_ := Aside0.mk (blk_below (g := gb233) (o := .cells #[.slice A0_0 l0_0.length c0_0, .slice A0_1 l0_1.length c0_1] 25 (0, 0)) (by (with_reducible repeat (first | refine blk_drewN ?_ _ | refine blk_drew ?_ | refine blk_alloc ?_ _)); exact BK233.out) hb); have n1_ := Aside0.mk (blk_below (g := gb234) (o := .cells #[.int .i64 a1_0, .int .i64 a1_1] 36 (0, 0)) (by (with_reducible repeat (first | refine blk_drewN ?_ _ | refine blk_drew ?_ | refine blk_alloc ?_ _)); exact BK234.out) hb); have n2_ := Aside0.mk (below_step (by repeat (first | (with_reducible first | exact HB.out | apply below_alloc | apply pw_below_drewN | apply below_drew1 | refine below_set ?_ GE233.out | refine below_set ?_ GE234.out) | exact HB.out)) hb); clear BK233; clear BK234; clear HB; have BK233 := n0_; have BK234 := n1_; have HB := n2_; clear n0_ n1_ n2_; (try clear hb); (try clear hb2); (try clear hk); (try clear hi); have hnbxc5201 := NB233_234.out; have hncxc5201 := NB234_233.out; have hczxc5201 : wxc5201.cell? ⟨gb233, 0, none⟩ = some (.slice A0_0 l0_0.length c0_0) := (blk_cell BK233.out 0).trans rfl; have hczxc5202 : wxc5201.cell? ⟨gb233, 1, none⟩ = some (.slice A0_1 l0_1.length c0_1) := (blk_cell BK233.out 1).trans rfl; have hfzxc5201 := blk_frozen BK233.out 0; have hfzxc5202 := blk_frozen BK233.out 1; have hczxc5203 : wxc5201.cell? ⟨gb234, 0, none⟩ = some (.int .i64 a1_0) := (blk_cell BK234.out 0).trans rfl; have hczxc5204 : wxc5201.cell? ⟨gb234, 1, none⟩ = some (.int .i64 a1_1) := (blk_cell BK234.out 1).trans rfl; have hfzxc5203 := blk_frozen BK234.out 0; have hfzxc5204 := blk_frozen BK234.out 1) | ((with_reducible refine gate_callee (f := 18) rfl ?_); refine goesL_ (some 18) rfl rfl Try.func18 (by kernel_rfl) rfl #[.agg #[.slice A0_0 l0_0.length c0_0, .slice A0_1 l0_1.length c0_1], .agg #[.int .i64 a1_0, .int .i64 a1_1]] rfl (by (try simp only [List.map_toArray, List.map_cons, List.map_nil]); first | done | rfl | (simp only [List.length_drop, List.length_take]; rfl)) ?_; (with_reducible refine (chart_Near.calls k _ _ l0_0 _ _ l0_1 a1_0 a1_1 t236 t237 _ ?side1 ?side2 ?side3 ?side4 A5.out).mono ?_); (case side1 => repeat (first | exact (Kd.C_below HR0_0.out HB.out) | (with_reducible refine Kd.C_alloc ?_ _) | (with_reducible refine Kd.C_drewN ?_ _) | (with_reducible refine Kd.C_drew ?_))); (case side2 => exact HC0_0.out); (case side3 => repeat (first | exact (Kd.C_below HR0_1.out HB.out) | (with_reducible refine Kd.C_alloc ?_ _) | (with_reducible refine Kd.C_drewN ?_ _) | (with_reducible refine Kd.C_drew ?_))); (case side4 => exact HC0_1.out); rintro e wxeb501 ⟨rfl, hb⟩; refine ⟨_, rfl, ?_⟩; have n0_ := Aside0.mk (blk_below (g := gb233) (o := .cells #[.slice A0_0 l0_0.length c0_0, .slice A0_1 l0_1.length c0_1] 25 (0, 0)) (by (with_reducible repeat (first | refine blk_drewN ?_ _ | refine blk_drew ?_ | refine blk_alloc ?_ _)); exact BK233.out) hb); have n1_ := Aside0.mk (blk_below (g := gb234) (o := .cells #[.int .i64 a1_0, .int .i64 a1_1] 36 (0, 0)) (by (with_reducible repeat (first | refine blk_drewN ?_ _ | refine blk_drew ?_ | refine blk_alloc ?_ _)); exact BK234.out) hb); have n2_ := Aside0.mk (below_step (by repeat (first | (with_reducible first | exact HB.out | apply below_alloc | apply pw_below_drewN | apply below_drew1 | refine below_set ?_ GE233.out | refine below_set ?_ GE234.out) | exact HB.out)) hb); clear BK233; clear BK234; clear HB; have BK233 := n0_; have BK234 := n1_; have HB := n2_; clear n0_ n1_ n2_; (try clear hb); (try clear hb2); (try clear hk); (try clear hi); have hczxeb501 : wxeb501.cell? ⟨gb233, 0, none⟩ = some (.slice A0_0 l0_0.length c0_0) := (blk_cell BK233.out 0).trans rfl; have hczxeb502 : wxeb501.cell? ⟨gb233, 1, none⟩ = some (.slice A0_1 l0_1.length c0_1) := (blk_cell BK233.out 1).trans rfl; have hfzxeb501 := blk_frozen BK233.out 0; have hfzxeb502 := blk_frozen BK233.out 1) | ((with_reducible refine gate_callee (f := 19) rfl ?_); refine goesL_ (some 28) rfl rfl Try.func19 (by kernel_rfl) rfl #[.agg #[.slice A0_0 l0_0.length c0_0, .slice A0_1 l0_1.length c0_1], .string t236] rfl (by (try simp only [List.map_toArray, List.map_cons, List.map_nil]); first | done | rfl | (simp only [List.length_drop, List.length_take]; rfl)) ?_; (with_reducible refine (chart_Find.calls k _ _ l0_0 _ _ l0_1 t236 t238 t239 t240 t241 _ ?side1 ?side2 ?side3 ?side4 A7.out).mono ?_); (case side1 => repeat (first | exact (Kd.C_below HR0_0.out HB.out) | (with_reducible refine Kd.C_alloc ?_ _) | (with_reducible refine Kd.C_drewN ?_ _) | (with_reducible refine Kd.C_drew ?_))); (case side2 => exact HC0_0.out); (case side3 => repeat (first | exact (Kd.C_below HR0_1.out HB.out) | (with_reducible refine Kd.C_alloc ?_ _) | (with_reducible refine Kd.C_drewN ?_ _) | (with_reducible refine Kd.C_drew ?_))); (case side4 => exact HC0_1.out); rintro e wx28e61 ⟨rfl, hb⟩; refine ⟨_, rfl, ?_⟩; have n0_ := Aside0.mk (blk_below (g := gb233) (o := .cells #[.slice A0_0 l0_0.length c0_0, .slice A0_1 l0_1.length c0_1] 25 (0, 0)) (by (with_reducible repeat (first | refine blk_drewN ?_ _ | refine blk_drew ?_ | refine blk_alloc ?_ _)); exact BK233.out) hb); have n1_ := Aside0.mk (blk_below (g := gb234) (o := .cells #[.int .i64 a1_0, .int .i64 a1_1] 36 (0, 0)) (by (with_reducible repeat (first | refine blk_drewN ?_ _ | refine blk_drew ?_ | refine blk_alloc ?_ _)); exact BK234.out) hb); have n2_ := Aside0.mk (below_step (by repeat (first | (with_reducible first | exact HB.out | apply below_alloc | apply pw_below_drewN | apply below_drew1 | refine below_set ?_ GE233.out | refine below_set ?_ GE234.out) | exact HB.out)) hb); clear BK233; clear BK234; clear HB; have BK233 := n0_; have BK234 := n1_; have HB := n2_; clear n0_ n1_ n2_; (try clear hb); (try clear hb2); (try clear hk); (try clear hi)) | ((with_reducible refine gate_dst (N := 7) rfl ?_); refine box_event ?hg (N := 7) ?hd (cs := #[.string (⟨#[]⟩ : ByteArray), .int .i64 0, .int .i64 0]) (t := 40) ?hr ?_; (case hd => rfl); (case hg => rfl); (case hr => first | (go_simp; done) | (go_simp; rfl)); intro gb242 hg wxc2fc1 hbox hb; have n0_ := Aside0.mk (blk_below (g := gb233) (o := .cells #[.slice A0_0 l0_0.length c0_0, .slice A0_1 l0_1.length c0_1] 25 (0, 0)) (by (with_reducible repeat (first | refine blk_drewN ?_ _ | refine blk_drew ?_ | refine blk_alloc ?_ _)); exact BK233.out) hb); have n1_ := Aside0.mk (blk_below (g := gb234) (o := .cells #[.int .i64 a1_0, .int .i64 a1_1] 36 (0, 0)) (by (with_reducible repeat (first | refine blk_drewN ?_ _ | refine blk_drew ?_ | refine blk_alloc ?_ _)); exact BK234.out) hb); have n2_ := Aside0.mk (below_step (by repeat (first | (with_reducible first | exact HB.out | apply below_alloc | apply pw_below_drewN | apply below_drew1 | refine below_set ?_ GE233.out | refine below_set ?_ GE234.out) | exact HB.out)) hb); have n3_ := Aside0.mk (hbox); have n4_ := Aside0.mk ((by rw [hg]; exact (below_size (by repeat (first | (with_reducible first | exact HB.out | apply below_alloc | apply pw_below_drewN | apply below_drew1 | refine below_set ?_ GE233.out | refine below_set ?_ GE234.out) | exact HB.out))) : w.heap.size ≤ gb242)); have n5_ := Aside0.mk ((by rw [hg]; exact (below_size (by repeat (first | (with_reducible first | exact HB.out | apply below_alloc | apply pw_below_drewN | apply below_drew1 | refine below_set ?_ GE233.out | refine below_set ?_ GE234.out) | exact HB.out))) : w.heap.size ≤ gb242)); have n6_ := Aside0.mk ((by rw [hg]; exact Nat.ne_of_lt (blk_lt (g := gb233) (o := .cells #[.slice A0_0 l0_0.length c0_0, .slice A0_1 l0_1.length c0_1] 25 (0, 0)) (by (with_reducible repeat (first | refine blk_drewN ?_ _ | refine blk_drew ?_ | refine blk_alloc ?_ _)); exact BK233.out)) : gb233 ≠ gb242)); have n7_ := Aside0.mk ((by rw [hg]; exact Nat.ne_of_gt (blk_lt (g := gb233) (o := .cells #[.slice A0_0 l0_0.length c0_0, .slice A0_1 l0_1.length c0_1] 25 (0, 0)) (by (with_reducible repeat (first | refine blk_drewN ?_ _ | refine blk_drew ?_ | refine blk_alloc ?_ _)); exact BK233.out)) : gb242 ≠ gb233)); have n8_ := Aside0.mk ((by rw [hg]; exact Nat.ne_of_lt (blk_lt (g := gb234) (o := .cells #[.int .i64 a1_0, .int .i64 a1_1] 36 (0, 0)) (by (with_reducible repeat (first | refine blk_drewN ?_ _ | refine blk_drew ?_ | refine blk_alloc ?_ _)); exact BK234.out)) : gb234 ≠ gb242)); have n9_ := Aside0.mk ((by rw [hg]; exact Nat.ne_of_gt (blk_lt (g := gb234) (o := .cells #[.int .i64 a1_0, .int .i64 a1_1] 36 (0, 0)) (by (with_reducible repeat (first | refine blk_drewN ?_ _ | refine blk_drew ?_ | refine blk_alloc ?_ _)); exact BK234.out)) : gb242 ≠ gb234)); clear BK233; clear BK234; clear HB; have BK233 := n0_; have BK234 := n1_; have HB := n2_; have BK242 := n3_; have GW242 := n4_; have GE242 := n5_; have NB233_242 := n6_; have NB242_233 := n7_; have NB234_242 := n8_; have NB242_234 := n9_; clear n0_ n1_ n2_ n3_ n4_ n5_ n6_ n7_ n8_ n9_; clear hb hbox hg; have hnbxc2fc1 := NB242_233.out; have hncxc2fc1 := NB233_242.out; have hnbxc2fc2 := NB242_234.out; have hncxc2fc2 := NB234_242.out; have hczxc2fc1 : wxc2fc1.cell? ⟨gb242, 0, none⟩ = some (.string (⟨#[]⟩ : ByteArray)) := (blk_cell BK242.out 0).trans rfl; have hczxc2fc2 : wxc2fc1.cell? ⟨gb242, 1, none⟩ = some (.int .i64 0) := (blk_cell BK242.out 1).trans rfl; have hczxc2fc3 : wxc2fc1.cell? ⟨gb242, 2, none⟩ = some (.int .i64 0) := (blk_cell BK242.out 2).trans rfl; have hfzxc2fc1 := blk_frozen BK242.out 0; have hfzxc2fc2 := blk_frozen BK242.out 1; have hfzxc2fc3 := blk_frozen BK242.out 2; have hczxc2fc4 : wxc2fc1.cell? ⟨gb233, 0, none⟩ = some (.slice A0_0 l0_0.length c0_0) := (blk_cell BK233.out 0).trans rfl; have hczxc2fc5 : wxc2fc1.cell? ⟨gb233, 1, none⟩ = some (.slice A0_1 l0_1.length c0_1) := (blk_cell BK233.out 1).trans rfl; have hfzxc2fc4 := blk_frozen BK233.out 0; have hfzxc2fc5 := blk_frozen BK233.out 1))
     go_loopg [34] k (fun kq v34 w' => ∃ (x34_1 : Int), v34 = .int .i64 x34_1 ∧ Aside0 (skywaykeep1_ChartNear.l0 kq t236 t241 l0_0 (l0_0.length : Int) x34_1 a1_0 a1_1 t238 t239 t240 = some r) ∧ Aside0 (kq ≤ k) ∧ Aside0 (w'.heap[gb233]? = some (.cells #[(.slice A0_0 l0_0.length c0_0), (.slice A0_1 l0_1.length c0_1)] 25 (0, 0))) ∧ Aside0 (w'.heap[gb234]? = some (.cells #[.int .i64 a1_0, .int .i64 a1_1] 36 (0, 0))) ∧ Aside0 (w'.heap[gb242]? = some (.cells #[.string t238, .int .i64 t239, .int .i64 t240] 40 (0, 0))) ∧ Aside0 (Below w.heap.size w w'))
     case atStart => exact ⟨(0), (by first | rfl | (simp; done) | (simp [*]; done)), H', ⟨Nat.le_refl _⟩, ⟨by (with_reducible repeat (first | refine blk_drewN ?_ _ | refine blk_drew ?_ | refine blk_alloc ?_ _)); refine blk_far ?_ NB233_242.out _; (with_reducible repeat (first | refine blk_drewN ?_ _ | refine blk_drew ?_ | refine blk_alloc ?_ _)); refine blk_far ?_ NB233_242.out _; (with_reducible repeat (first | refine blk_drewN ?_ _ | refine blk_drew ?_ | refine blk_alloc ?_ _)); refine blk_far ?_ NB233_242.out _; (with_reducible repeat (first | refine blk_drewN ?_ _ | refine blk_drew ?_ | refine blk_alloc ?_ _)); exact BK233.out⟩, ⟨by (with_reducible repeat (first | refine blk_drewN ?_ _ | refine blk_drew ?_ | refine blk_alloc ?_ _)); refine blk_far ?_ NB234_242.out _; (with_reducible repeat (first | refine blk_drewN ?_ _ | refine blk_drew ?_ | refine blk_alloc ?_ _)); refine blk_far ?_ NB234_242.out _; (with_reducible repeat (first | refine blk_drewN ?_ _ | refine blk_drew ?_ | refine blk_alloc ?_ _)); refine blk_far ?_ NB234_242.out _; (with_reducible repeat (first | refine blk_drewN ?_ _ | refine blk_drew ?_ | refine blk_alloc ?_ _)); exact BK234.out⟩, ⟨by (with_reducible repeat (first | refine blk_drewN ?_ _ | refine blk_drew ?_ | refine blk_alloc ?_ _)); refine blk_put (cs := #[.string t238, .int .i64 t239, .int .i64 0]) ?_ 2 _ rfl; (with_reducible repeat (first | refine blk_drewN ?_ _ | refine blk_drew ?_ | refine blk_alloc ?_ _)); refine blk_put (cs := #[.string t238, .int .i64 0, .int .i64 0]) ?_ 1 _ rfl; (with_reducible repeat (first | refine blk_drewN ?_ _ | refine blk_drew ?_ | refine blk_alloc ?_ _)); refine blk_put (cs := #[.string (⟨#[]⟩ : ByteArray), .int .i64 0, .int .i64 0]) ?_ 0 _ rfl; (with_reducible repeat (first | refine blk_drewN ?_ _ | refine blk_drew ?_ | refine blk_alloc ?_ _)); exact BK242.out⟩, ⟨by repeat (first | (with_reducible first | exact HB.out | apply below_alloc | apply pw_below_drewN | apply below_drew1 | refine below_set ?_ GE233.out | refine below_set ?_ GE234.out | refine below_set ?_ GE242.out) | exact HB.out)⟩⟩
     case round =>
      clear H'
      (try clear c1); (try clear p1); (try clear p2); (try clear c4); (try clear c5); (try clear c6); (try clear c6b0); (try clear c6b1); (try clear c11); (try clear c15); (try clear c18); (try clear c19); (try clear hczxc5201); (try clear hczxc5202); (try clear hczxc5203); (try clear hczxc5204); (try clear hczxeb501); (try clear hczxeb502); (try clear hczxc2fc1); (try clear hczxc2fc2); (try clear hczxc2fc3); (try clear hczxc2fc4); (try clear hczxc2fc5); (try clear hfzxc5201); (try clear hfzxc5202); (try clear hfzxc5203); (try clear hfzxc5204); (try clear hfzxeb501); (try clear hfzxeb502); (try clear hfzxc2fc1); (try clear hfzxc2fc2); (try clear hfzxc2fc3); (try clear hfzxc2fc4); (try clear hfzxc2fc5)
      obtain ⟨x34_1, rfl, HA, HK1, BK233, BK234, BK242, HB⟩ := hrel
      cases gk with
      | zero => exact absurd HA.out (by simp [skywaykeep1_ChartNear.l0])
      | succ k1 =>
       have H := HA.out
       clear HA
       simp only [skywaykeep1_ChartNear.l0] at H
       refine Or.elim (Classical.em (x34_1 < (l0_0.length : Int))) (fun c22 => ?p5_) (fun c22 => ?n5_)
       case' p5_ =>
        rw [if_pos c22] at H
        have c22b0 : decide (x34_1 < (l0_0.length : Int)) = true := decide_eq_true c22
        clear c22
        refine Or.elim (Classical.em (0 ≤ x34_1)) (fun c23 => ?p6_) (fun c23 => ?n6_)
        case' p6_ =>
         rw [if_pos c23] at H
         have c23b0 : decide (0 ≤ x34_1) = true := decide_eq_true c23
         clear c23
         refine Or.elim (Classical.em (x34_1 < (l0_0.length : Int))) (fun c24 => ?p7_) (fun c24 => ?n7_)
         case' p7_ =>
          rw [if_pos c24] at H
          have c24b0 : decide (x34_1 < (l0_0.length : Int)) = true := decide_eq_true c24
          clear c24
          replace H := Option.bind_eq_some_iff.mp H
          obtain ⟨t245, A250, H⟩ := H
          replace H : ((plane_Square.f t239 t240 a1_0 a1_1).bind fun t246 => (if t245 < t246 then (some false) else (if t245 = t246 then (if (Op.bytesLess (((rd_T40 l0_0 x34_1).f0).toList) t236.toList) = true then (some false) else (skywaykeep1_ChartNear.l0 k1 t236 t241 l0_0 (l0_0.length : Int) (wrap64 (x34_1 + 1)) a1_0 a1_1 t238 t239 t240)) else (skywaykeep1_ChartNear.l0 k1 t236 t241 l0_0 (l0_0.length : Int) (wrap64 (x34_1 + 1)) a1_0 a1_1 t238 t239 t240)))) = some r := H
          have A25 := Aside0.mk A250
          clear A250
          replace H := Option.bind_eq_some_iff.mp H
          obtain ⟨t246, A260, H⟩ := H
          replace H : (if t245 < t246 then (some false) else (if t245 = t246 then (if (Op.bytesLess (((rd_T40 l0_0 x34_1).f0).toList) t236.toList) = true then (some false) else (skywaykeep1_ChartNear.l0 k1 t236 t241 l0_0 (l0_0.length : Int) (wrap64 (x34_1 + 1)) a1_0 a1_1 t238 t239 t240)) else (skywaykeep1_ChartNear.l0 k1 t236 t241 l0_0 (l0_0.length : Int) (wrap64 (x34_1 + 1)) a1_0 a1_1 t238 t239 t240))) = some r := H
          have A26 := Aside0.mk A260
          clear A260
          refine Or.elim (Classical.em (t245 < t246)) (fun c27 => ?p8_) (fun c27 => ?n8_)
          case' p8_ =>
           rw [if_pos c27] at H
           have c27b0 : decide (t245 < t246) = true := decide_eq_true c27
           clear c27
           have hm4_0 := Aside0.mk trivial
          case' n8_ =>
           rw [if_neg c27] at H
           have c27b0 : decide (t245 < t246) = false := decide_eq_false c27
           clear c27
           refine Or.elim (Classical.em (t245 = t246)) (fun c37 => ?p9_) (fun c37 => ?n9_)
           case' p9_ =>
            rw [if_pos c37] at H
            have c37b0 : (t245 == t246) = true := beq_iff_eq.mpr c37
            have c37b1 : (t245 != t246) = false := bne_eq_false_iff_eq.mpr c37
            clear c37
            refine Or.elim (Classical.em ((Op.bytesLess (((rd_T40 l0_0 x34_1).f0).toList) t236.toList) = true)) (fun c38 => ?p10_) (fun c38 => ?n10_)
            case' p10_ =>
             rw [if_pos c38] at H
             have c38b0 : (Op.bytesLess (((rd_T40 l0_0 x34_1).f0).toList) t236.toList) = true := c38
             clear c38
             have hm4_1 := Aside0.mk trivial
            case' n10_ =>
             rw [if_neg c38] at H
             have c38b0 : (Op.bytesLess (((rd_T40 l0_0 x34_1).f0).toList) t236.toList) = false := by simpa using c38
             clear c38
             have hm4_2 := Aside0.mk trivial
           case' n9_ =>
            rw [if_neg c37] at H
            have c37b0 : (t245 == t246) = false := beq_eq_false_iff_ne.mpr c37
            have c37b1 : (t245 != t246) = true := bne_iff_ne.mpr c37
            have hm4_3 := Aside0.mk trivial
         case' n7_ =>
          rw [if_neg c24] at H
          exact absurd H (by simp)
        case' n6_ =>
         rw [if_neg c23] at H
         exact absurd H (by simp)
       case' n5_ =>
        rw [if_neg c22] at H
        have c22b0 : decide (x34_1 < (l0_0.length : Int)) = false := decide_eq_false c22
        clear c22
        refine Or.elim (Classical.em (t241 = 0)) (fun c68 => ?p11_) (fun c68 => ?n11_)
        case' p11_ =>
         rw [if_pos c68] at H
         have c68b0 : (t241 == 0) = true := beq_iff_eq.mpr c68
         have c68b1 : (t241 != 0) = false := bne_eq_false_iff_eq.mpr c68
         clear c68
         have hm4_4 := Aside0.mk trivial
        case' n11_ =>
         rw [if_neg c68] at H
         have c68b0 : (t241 == 0) = false := beq_eq_false_iff_ne.mpr c68
         have c68b1 : (t241 != 0) = true := bne_iff_ne.mpr c68
         have hm4_5 := Aside0.mk trivial
       all_goals
        first
         | (first | (have _hm := hm4_0) | (have _hm := hm4_1) | (have _hm := hm4_4) | (have _hm := hm4_5))
           obtain rfl := Option.some.inj H
           first
            | (first | (have _hm := hm4_0) | (have _hm := hm4_1))
              have p243 : 0 ≤ (x34_1 : Int) := of_decide_eq_true (by first | (with_reducible assumption) | assumption)
              have q243 : x34_1 < (l0_0.length : Int) := of_decide_eq_true (by first | (with_reducible assumption) | assumption)
              obtain ⟨ad243, e243, hx243_0, hx243_1, hx243_2⟩ := at_T40 HR0_0.out x34_1 p243 q243
              cases e243
              replace hx243_0 := (HB.out.cell (World.block_lt_of_cell? w _ hx243_0)).trans hx243_0
              replace hx243_1 := (HB.out.cell (World.block_lt_of_cell? w _ hx243_1)).trans hx243_1
              replace hx243_2 := (HB.out.cell (World.block_lt_of_cell? w _ hx243_2)).trans hx243_2
              replace p243 := eq_true p243
              replace q243 := eq_true q243
              try go_wp2_with (first | ((with_reducible refine gate_dst (N := 10) rfl ?_); refine box_event ?hg (N := 10) ?hd (cs := #[.string (⟨#[]⟩ : ByteArray), .int .i64 0, .int .i64 0]) (t := 40) ?hr ?_; (case hd => rfl); (case hg => rfl); (case hr => first | (go_simp; done) | (go_simp; rfl)); intro gb244 hg wxbafb1 hbox hb; have n0_ := Aside0.mk (blk_below (g := gb233) (o := .cells #[.slice (some ad243) l0_0.length c0_0, .slice A0_1 l0_1.length c0_1] 25 (0, 0)) (by (with_reducible repeat (first | refine blk_drewN ?_ _ | refine blk_drew ?_ | refine blk_alloc ?_ _)); exact BK233.out) hb); have n1_ := Aside0.mk (blk_below (g := gb234) (o := .cells #[.int .i64 a1_0, .int .i64 a1_1] 36 (0, 0)) (by (with_reducible repeat (first | refine blk_drewN ?_ _ | refine blk_drew ?_ | refine blk_alloc ?_ _)); exact BK234.out) hb); have n2_ := Aside0.mk (blk_below (g := gb242) (o := .cells #[.string t238, .int .i64 t239, .int .i64 t240] 40 (0, 0)) (by (with_reducible repeat (first | refine blk_drewN ?_ _ | refine blk_drew ?_ | refine blk_alloc ?_ _)); exact BK242.out) hb); have n3_ := Aside0.mk (below_step (by repeat (first | (with_reducible first | exact HB.out | apply below_alloc | apply pw_below_drewN | apply below_drew1 | refine below_set ?_ GE233.out | refine below_set ?_ GE234.out | refine below_set ?_ GE242.out) | exact HB.out)) hb); have n4_ := Aside0.mk (hbox); have n5_ := Aside0.mk ((by rw [hg]; exact (below_size (by repeat (first | (with_reducible first | exact HB.out | apply below_alloc | apply pw_below_drewN | apply below_drew1 | refine below_set ?_ GE233.out | refine below_set ?_ GE234.out | refine below_set ?_ GE242.out) | exact HB.out))) : w.heap.size ≤ gb244)); have n6_ := Aside0.mk ((by rw [hg]; exact (below_size (by repeat (first | (with_reducible first | exact HB.out | apply below_alloc | apply pw_below_drewN | apply below_drew1 | refine below_set ?_ GE233.out | refine below_set ?_ GE234.out | refine below_set ?_ GE242.out) | exact HB.out))) : w.heap.size ≤ gb244)); have n7_ := Aside0.mk ((by rw [hg]; exact Nat.ne_of_lt (blk_lt (g := gb233) (o := .cells #[.slice (some ad243) l0_0.length c0_0, .slice A0_1 l0_1.length c0_1] 25 (0, 0)) (by (with_reducible repeat (first | refine blk_drewN ?_ _ | refine blk_drew ?_ | refine blk_alloc ?_ _)); exact BK233.out)) : gb233 ≠ gb244)); have n8_ := Aside0.mk ((by rw [hg]; exact Nat.ne_of_gt (blk_lt (g := gb233) (o := .cells #[.slice (some ad243) l0_0.length c0_0, .slice A0_1 l0_1.length c0_1] 25 (0, 0)) (by (with_reducible repeat (first | refine blk_drewN ?_ _ | refine blk_drew ?_ | refine blk_alloc ?_ _)); exact BK233.out)) : gb244 ≠ gb233)); have n9_ := Aside0.mk ((by rw [hg]; exact Nat.ne_of_lt (blk_lt (g := gb234) (o := .cells #[.int .i64 a1_0, .int .i64 a1_1] 36 (0, 0)) (by (with_reducible repeat (first | refine blk_drewN ?_ _ | refine blk_drew ?_ | refine blk_alloc ?_ _)); exact BK234.out)) : gb234 ≠ gb244)); have n10_ := Aside0.mk ((by rw [hg]; exact Nat.ne_of_gt (blk_lt (g := gb234) (o := .cells #[.int .i64 a1_0, .int .i64 a1_1] 36 (0, 0)) (by (with_reducible repeat (first | refine blk_drewN ?_ _ | refine blk_drew ?_ | refine blk_alloc ?_ _)); exact BK234.out)) : gb244 ≠ gb234)); have n11_ := Aside0.mk ((by rw [hg]; exact Nat.ne_of_lt (blk_lt (g := gb242) (o := .cells #[.string t238, .int .i64 t239, .int .i64 t240] 40 (0, 0)) (by (with_reducible repeat (first | refine blk_drewN ?_ _ | refine blk_drew ?_ | refine blk_alloc ?_ _)); exact BK242.out)) : gb242 ≠ gb244)); have n12_ := Aside0.mk ((by rw [hg]; exact Nat.ne_of_gt (blk_lt (g := gb242) (o := .cells #[.string t238, .int .i64 t239, .int .i64 t240] 40 (0, 0)) (by (with_reducible repeat (first | refine blk_drewN ?_ _ | refine blk_drew ?_ | refine blk_alloc ?_ _)); exact BK242.out)) : gb244 ≠ gb242)); clear BK233; clear BK234; clear BK242; clear HB; have BK233 := n0_; have BK234 := n1_; have BK242 := n2_; have HB := n3_; have BK244 := n4_; have GW244 := n5_; have GE244 := n6_; have NB233_244 := n7_; have NB244_233 := n8_; have NB234_244 := n9_; have NB244_234 := n10_; have NB242_244 := n11_; have NB244_242 := n12_; clear n0_ n1_ n2_ n3_ n4_ n5_ n6_ n7_ n8_ n9_ n10_ n11_ n12_; clear hb hbox hg; have hnbxbafb1 := NB244_233.out; have hncxbafb1 := NB233_244.out; have hnbxbafb2 := NB244_234.out; have hncxbafb2 := NB234_244.out; have hnbxbafb3 := NB244_242.out; have hncxbafb3 := NB242_244.out; have hczxbafb1 : wxbafb1.cell? ⟨gb244, 0, none⟩ = some (.string (⟨#[]⟩ : ByteArray)) := (blk_cell BK244.out 0).trans rfl; have hczxbafb2 : wxbafb1.cell? ⟨gb244, 1, none⟩ = some (.int .i64 0) := (blk_cell BK244.out 1).trans rfl; have hczxbafb3 : wxbafb1.cell? ⟨gb244, 2, none⟩ = some (.int .i64 0) := (blk_cell BK244.out 2).trans rfl; have hfzxbafb1 := blk_frozen BK244.out 0; have hfzxbafb2 := blk_frozen BK244.out 1; have hfzxbafb3 := blk_frozen BK244.out 2))
              have n0_ : Aside0 ((((wxbafb1.setCell ⟨gb244, 0, none⟩ (.string ((rd_T40 l0_0 x34_1).f0))).setCell ⟨gb244, 1, none⟩ (.int .i64 ((rd_T40 l0_0 x34_1).f1.f0))).setCell ⟨gb244, 2, none⟩ (.int .i64 ((rd_T40 l0_0 x34_1).f1.f1))).heap[gb233]? = some (.cells #[.slice (some ad243) l0_0.length c0_0, .slice A0_1 l0_1.length c0_1] 25 (0, 0))) := ⟨by (with_reducible repeat (first | refine blk_drewN ?_ _ | refine blk_drew ?_ | refine blk_alloc ?_ _)); refine blk_far ?_ NB233_244.out _; (with_reducible repeat (first | refine blk_drewN ?_ _ | refine blk_drew ?_ | refine blk_alloc ?_ _)); refine blk_far ?_ NB233_244.out _; (with_reducible repeat (first | refine blk_drewN ?_ _ | refine blk_drew ?_ | refine blk_alloc ?_ _)); refine blk_far ?_ NB233_244.out _; (with_reducible repeat (first | refine blk_drewN ?_ _ | refine blk_drew ?_ | refine blk_alloc ?_ _)); exact BK233.out⟩
              have n1_ : Aside0 ((((wxbafb1.setCell ⟨gb244, 0, none⟩ (.string ((rd_T40 l0_0 x34_1).f0))).setCell ⟨gb244, 1, none⟩ (.int .i64 ((rd_T40 l0_0 x34_1).f1.f0))).setCell ⟨gb244, 2, none⟩ (.int .i64 ((rd_T40 l0_0 x34_1).f1.f1))).heap[gb234]? = some (.cells #[.int .i64 a1_0, .int .i64 a1_1] 36 (0, 0))) := ⟨by (with_reducible repeat (first | refine blk_drewN ?_ _ | refine blk_drew ?_ | refine blk_alloc ?_ _)); refine blk_far ?_ NB234_244.out _; (with_reducible repeat (first | refine blk_drewN ?_ _ | refine blk_drew ?_ | refine blk_alloc ?_ _)); refine blk_far ?_ NB234_244.out _; (with_reducible repeat (first | refine blk_drewN ?_ _ | refine blk_drew ?_ | refine blk_alloc ?_ _)); refine blk_far ?_ NB234_244.out _; (with_reducible repeat (first | refine blk_drewN ?_ _ | refine blk_drew ?_ | refine blk_alloc ?_ _)); exact BK234.out⟩
              have n2_ : Aside0 ((((wxbafb1.setCell ⟨gb244, 0, none⟩ (.string ((rd_T40 l0_0 x34_1).f0))).setCell ⟨gb244, 1, none⟩ (.int .i64 ((rd_T40 l0_0 x34_1).f1.f0))).setCell ⟨gb244, 2, none⟩ (.int .i64 ((rd_T40 l0_0 x34_1).f1.f1))).heap[gb242]? = some (.cells #[.string t238, .int .i64 t239, .int .i64 t240] 40 (0, 0))) := ⟨by (with_reducible repeat (first | refine blk_drewN ?_ _ | refine blk_drew ?_ | refine blk_alloc ?_ _)); refine blk_far ?_ NB242_244.out _; (with_reducible repeat (first | refine blk_drewN ?_ _ | refine blk_drew ?_ | refine blk_alloc ?_ _)); refine blk_far ?_ NB242_244.out _; (with_reducible repeat (first | refine blk_drewN ?_ _ | refine blk_drew ?_ | refine blk_alloc ?_ _)); refine blk_far ?_ NB242_244.out _; (with_reducible repeat (first | refine blk_drewN ?_ _ | refine blk_drew ?_ | refine blk_alloc ?_ _)); exact BK242.out⟩
              have n3_ : Aside0 ((((wxbafb1.setCell ⟨gb244, 0, none⟩ (.string ((rd_T40 l0_0 x34_1).f0))).setCell ⟨gb244, 1, none⟩ (.int .i64 ((rd_T40 l0_0 x34_1).f1.f0))).setCell ⟨gb244, 2, none⟩ (.int .i64 ((rd_T40 l0_0 x34_1).f1.f1))).heap[gb244]? = some (.cells #[.string ((rd_T40 l0_0 x34_1).f0), .int .i64 ((rd_T40 l0_0 x34_1).f1.f0), .int .i64 ((rd_T40 l0_0 x34_1).f1.f1)] 40 (0, 0))) := ⟨by (with_reducible repeat (first | refine blk_drewN ?_ _ | refine blk_drew ?_ | refine blk_alloc ?_ _)); refine blk_put (cs := #[.string ((rd_T40 l0_0 x34_1).f0), .int .i64 ((rd_T40 l0_0 x34_1).f1.f0), .int .i64 0]) ?_ 2 _ rfl; (with_reducible repeat (first | refine blk_drewN ?_ _ | refine blk_drew ?_ | refine blk_alloc ?_ _)); refine blk_put (cs := #[.string ((rd_T40 l0_0 x34_1).f0), .int .i64 0, .int .i64 0]) ?_ 1 _ rfl; (with_reducible repeat (first | refine blk_drewN ?_ _ | refine blk_drew ?_ | refine blk_alloc ?_ _)); refine blk_put (cs := #[.string (⟨#[]⟩ : ByteArray), .int .i64 0, .int .i64 0]) ?_ 0 _ rfl; (with_reducible repeat (first | refine blk_drewN ?_ _ | refine blk_drew ?_ | refine blk_alloc ?_ _)); exact BK244.out⟩
              have n4_ : Aside0 (Below w.heap.size w (((wxbafb1.setCell ⟨gb244, 0, none⟩ (.string ((rd_T40 l0_0 x34_1).f0))).setCell ⟨gb244, 1, none⟩ (.int .i64 ((rd_T40 l0_0 x34_1).f1.f0))).setCell ⟨gb244, 2, none⟩ (.int .i64 ((rd_T40 l0_0 x34_1).f1.f1)))) := ⟨by repeat (first | (with_reducible first | exact HB.out | apply below_alloc | apply pw_below_drewN | apply below_drew1 | refine below_set ?_ GE233.out | refine below_set ?_ GE234.out | refine below_set ?_ GE242.out | refine below_set ?_ GE244.out) | exact HB.out)⟩
              (try clear BK233)
              (try clear BK234)
              (try clear BK242)
              (try clear BK244)
              (try clear HB)
              generalize (((wxbafb1.setCell ⟨gb244, 0, none⟩ (.string ((rd_T40 l0_0 x34_1).f0))).setCell ⟨gb244, 1, none⟩ (.int .i64 ((rd_T40 l0_0 x34_1).f1.f0))).setCell ⟨gb244, 2, none⟩ (.int .i64 ((rd_T40 l0_0 x34_1).f1.f1))) = wzc1 at n0_ n1_ n2_ n3_ n4_ ⊢
              have BK233 := n0_
              have BK234 := n1_
              have BK242 := n2_
              have BK244 := n3_
              have HB := n4_
              clear n0_ n1_ n2_ n3_ n4_
              have n0_ := Aside0.mk (blk_drew BK233.out)
              have n1_ := Aside0.mk (blk_drew BK234.out)
              have n2_ := Aside0.mk (blk_drew BK242.out)
              have n3_ := Aside0.mk (blk_drew BK244.out)
              have n4_ := Aside0.mk (below_drew1 HB.out)
              clear BK233
              clear BK234
              clear BK242
              clear BK244
              clear HB
              have BK233 := n0_
              have BK234 := n1_
              have BK242 := n2_
              have BK244 := n3_
              have HB := n4_
              clear n0_ n1_ n2_ n3_ n4_
              refine start_ (n := 10) (S := fun w' => w'.cell? ⟨gb244, 0, none⟩ = some (.string ((rd_T40 l0_0 x34_1).f0)) ∧ w'.cell? ⟨gb244, 1, none⟩ = some (.int .i64 ((rd_T40 l0_0 x34_1).f1.f0)) ∧ w'.cell? ⟨gb244, 2, none⟩ = some (.int .i64 ((rd_T40 l0_0 x34_1).f1.f1)) ∧ w'.cell? ⟨gb234, 0, none⟩ = some (.int .i64 a1_0) ∧ w'.cell? ⟨gb234, 1, none⟩ = some (.int .i64 a1_1) ∧ w'.cell? ⟨gb242, 0, none⟩ = some (.string t238) ∧ w'.cell? ⟨gb242, 1, none⟩ = some (.int .i64 t239) ∧ w'.cell? ⟨gb242, 2, none⟩ = some (.int .i64 t240)) (ds := []) #[false, false, false, false, false, false, false, false, false, false] (by kernel_rfl) rfl rfl ⟨(blk_cell BK244.out 0).trans rfl, (blk_cell BK244.out 1).trans rfl, (blk_cell BK244.out 2).trans rfl, (blk_cell BK234.out 0).trans rfl, (blk_cell BK234.out 1).trans rfl, (blk_cell BK242.out 0).trans rfl, (blk_cell BK242.out 1).trans rfl, (blk_cell BK242.out 2).trans rfl⟩ (fun hHeld => ?_); refine with_tabW skywaykeep1_ChartNear.tab10 skywaykeep1_ChartNear.bits10 (fun HT_ HW_ => ?_)
              generalize wzc1.drew = wzc2 at BK233 BK234 BK242 BK244 HB hHeld ⊢
              refine pure_ (i := 0) (N := some 38) (v := ?_) (a' := ?_) #[true, false, false, false, false, false, false, false, false, false] rfl rfl (any_of HT_.out (by kernel_rfl)) (fun _ _ _ h => h) (Or.inl ⟨by rfl, ?_⟩) ?_ ?_
              rotate_left
              · intro w'
                go_simp
                with_reducible rfl
              rotate_left
              · simp only [Act.put, List.setIfInBounds_toArray, List.set_cons_zero, List.set_cons_succ, i64_w, i32_w]
                rfl
              refine pure_ (i := 4) (N := some 42) (v := ?_) (a' := ?_) #[true, false, false, false, true, false, false, false, false, false] rfl rfl (any_of HT_.out (by kernel_rfl)) (fun _ _ _ h => h) (Or.inl ⟨by rfl, ?_⟩) ?_ ?_
              rotate_left
              · intro w'
                go_simp
                with_reducible rfl
              rotate_left
              · simp only [Act.put, List.setIfInBounds_toArray, List.set_cons_zero, List.set_cons_succ, i64_w, i32_w]
                rfl
              refine take_ (i := 1) (N := some 39) (v := ?_) (a' := ?_) #[true, true, false, false, true, false, false, false, false, false] rfl rfl (take_ofW HT_.out HW_.out (by kernel_rfl)) (fun _ _ _ h => h) (Or.inl ⟨by rfl, ?_⟩) hHeld ?_ ?_
              rotate_left
              · rintro w' ⟨s0, s1, s2, s3, s4, s5, s6, s7⟩
                go_simp
                with_reducible rfl
              rotate_left
              · simp only [Act.put, List.setIfInBounds_toArray, List.set_cons_zero, List.set_cons_succ, i64_w, i32_w]
                rfl
              refine take_ (i := 2) (N := some 40) (v := ?_) (a' := ?_) #[true, true, true, false, true, false, false, false, false, false] rfl rfl (take_ofW HT_.out HW_.out (by kernel_rfl)) (fun _ _ _ h => h) (Or.inl ⟨by rfl, ?_⟩) hHeld ?_ ?_
              rotate_left
              · rintro w' ⟨s0, s1, s2, s3, s4, s5, s6, s7⟩
                go_simp
                with_reducible rfl
              rotate_left
              · simp only [Act.put, List.setIfInBounds_toArray, List.set_cons_zero, List.set_cons_succ, i64_w, i32_w]
                rfl
              refine take_ (i := 5) (N := some 43) (v := ?_) (a' := ?_) #[true, true, true, false, true, true, false, false, false, false] rfl rfl (take_ofW HT_.out HW_.out (by kernel_rfl)) (fun _ _ _ h => h) (Or.inl ⟨by rfl, ?_⟩) hHeld ?_ ?_
              rotate_left
              · rintro w' ⟨s0, s1, s2, s3, s4, s5, s6, s7⟩
                go_simp
                with_reducible rfl
              rotate_left
              · simp only [Act.put, List.setIfInBounds_toArray, List.set_cons_zero, List.set_cons_succ, i64_w, i32_w]
                rfl
              refine take_ (i := 6) (N := some 44) (v := ?_) (a' := ?_) #[true, true, true, false, true, true, true, false, false, false] rfl rfl (take_ofW HT_.out HW_.out (by kernel_rfl)) (fun _ _ _ h => h) (Or.inl ⟨by rfl, ?_⟩) hHeld ?_ ?_
              rotate_left
              · rintro w' ⟨s0, s1, s2, s3, s4, s5, s6, s7⟩
                go_simp
                with_reducible rfl
              rotate_left
              · simp only [Act.put, List.setIfInBounds_toArray, List.set_cons_zero, List.set_cons_succ, i64_w, i32_w]
                rfl
              refine one_ (i := 3) (N := some 41) #[true, true, true, true, true, true, true, false, false, false] rfl rfl (one_of HT_.out (by kernel_rfl)) (by decide) (fun K hK => ?_)
              refine goes_ Try.func20 (by kernel_rfl) rfl #[.agg #[.int .i64 ((rd_T40 l0_0 x34_1).f1.f0), .int .i64 ((rd_T40 l0_0 x34_1).f1.f1)], .agg #[.int .i64 a1_0, .int .i64 a1_1]] (by rfl) rfl rfl (by (try simp only [List.map_toArray, List.map_cons, List.map_nil]); first | done | rfl | (simp only [List.length_drop, List.length_take]; rfl)) ?_
              with_reducible refine (plane_Square.calls ((rd_T40 l0_0 x34_1).f1.f0) ((rd_T40 l0_0 x34_1).f1.f1) a1_0 a1_1 t245 _ A25.out).mono ?_
              rintro e wzc3 ⟨rfl, hb⟩
              refine ⟨_, rfl, ?_⟩
              have n0_ := Aside0.mk (blk_below (g := gb233) (o := .cells #[.slice (some ad243) l0_0.length c0_0, .slice A0_1 l0_1.length c0_1] 25 (0, 0)) (by (with_reducible repeat (first | refine blk_drewN ?_ _ | refine blk_drew ?_ | refine blk_alloc ?_ _)); exact BK233.out) hb)
              have n1_ := Aside0.mk (blk_below (g := gb234) (o := .cells #[.int .i64 a1_0, .int .i64 a1_1] 36 (0, 0)) (by (with_reducible repeat (first | refine blk_drewN ?_ _ | refine blk_drew ?_ | refine blk_alloc ?_ _)); exact BK234.out) hb)
              have n2_ := Aside0.mk (blk_below (g := gb242) (o := .cells #[.string t238, .int .i64 t239, .int .i64 t240] 40 (0, 0)) (by (with_reducible repeat (first | refine blk_drewN ?_ _ | refine blk_drew ?_ | refine blk_alloc ?_ _)); exact BK242.out) hb)
              have n3_ := Aside0.mk (blk_below (g := gb244) (o := .cells #[.string ((rd_T40 l0_0 x34_1).f0), .int .i64 ((rd_T40 l0_0 x34_1).f1.f0), .int .i64 ((rd_T40 l0_0 x34_1).f1.f1)] 40 (0, 0)) (by (with_reducible repeat (first | refine blk_drewN ?_ _ | refine blk_drew ?_ | refine blk_alloc ?_ _)); exact BK244.out) hb)
              have n4_ := Aside0.mk (below_step (by repeat (first | (with_reducible first | exact HB.out | apply below_alloc | apply pw_below_drewN | apply below_drew1 | refine below_set ?_ GE233.out | refine below_set ?_ GE234.out | refine below_set ?_ GE242.out | refine below_set ?_ GE244.out) | exact HB.out)) hb)
              clear BK233
              clear BK234
              clear BK242
              clear BK244
              clear HB
              have BK233 := n0_
              have BK234 := n1_
              have BK242 := n2_
              have BK244 := n3_
              have HB := n4_
              clear n0_ n1_ n2_ n3_ n4_
              (try clear hb)
              (try clear hb2)
              (try clear hk)
              (try clear hi)
              refine hK.out _ _ ⟨(blk_cell BK244.out 0).trans rfl, (blk_cell BK244.out 1).trans rfl, (blk_cell BK244.out 2).trans rfl, (blk_cell BK234.out 0).trans rfl, (blk_cell BK234.out 1).trans rfl, (blk_cell BK242.out 0).trans rfl, (blk_cell BK242.out 1).trans rfl, (blk_cell BK242.out 2).trans rfl⟩ (fun hHeld => ?_)
              clear hK K
              refine norm_ (a' := ?_) ?_ ?_
              rotate_left
              · show Act.put _ (some 41) _ = _
                simp only [Act.put, List.setIfInBounds_toArray, List.set_cons_zero, List.set_cons_succ, i64_w, i32_w]
                rfl
              refine one_ (i := 7) (N := some 45) #[true, true, true, true, true, true, true, true, false, false] rfl rfl (one_of HT_.out (by kernel_rfl)) (by decide) (fun K hK => ?_)
              refine goes_ Try.func20 (by kernel_rfl) rfl #[.agg #[.int .i64 t239, .int .i64 t240], .agg #[.int .i64 a1_0, .int .i64 a1_1]] (by rfl) rfl rfl (by (try simp only [List.map_toArray, List.map_cons, List.map_nil]); first | done | rfl | (simp only [List.length_drop, List.length_take]; rfl)) ?_
              with_reducible refine (plane_Square.calls t239 t240 a1_0 a1_1 t246 _ A26.out).mono ?_
              rintro e wzc4 ⟨rfl, hb⟩
              refine ⟨_, rfl, ?_⟩
              have n0_ := Aside0.mk (blk_below (g := gb233) (o := .cells #[.slice (some ad243) l0_0.length c0_0, .slice A0_1 l0_1.length c0_1] 25 (0, 0)) (by (with_reducible repeat (first | refine blk_drewN ?_ _ | refine blk_drew ?_ | refine blk_alloc ?_ _)); exact BK233.out) hb)
              have n1_ := Aside0.mk (blk_below (g := gb234) (o := .cells #[.int .i64 a1_0, .int .i64 a1_1] 36 (0, 0)) (by (with_reducible repeat (first | refine blk_drewN ?_ _ | refine blk_drew ?_ | refine blk_alloc ?_ _)); exact BK234.out) hb)
              have n2_ := Aside0.mk (blk_below (g := gb242) (o := .cells #[.string t238, .int .i64 t239, .int .i64 t240] 40 (0, 0)) (by (with_reducible repeat (first | refine blk_drewN ?_ _ | refine blk_drew ?_ | refine blk_alloc ?_ _)); exact BK242.out) hb)
              have n3_ := Aside0.mk (blk_below (g := gb244) (o := .cells #[.string ((rd_T40 l0_0 x34_1).f0), .int .i64 ((rd_T40 l0_0 x34_1).f1.f0), .int .i64 ((rd_T40 l0_0 x34_1).f1.f1)] 40 (0, 0)) (by (with_reducible repeat (first | refine blk_drewN ?_ _ | refine blk_drew ?_ | refine blk_alloc ?_ _)); exact BK244.out) hb)
              have n4_ := Aside0.mk (below_step (by repeat (first | (with_reducible first | exact HB.out | apply below_alloc | apply pw_below_drewN | apply below_drew1 | refine below_set ?_ GE233.out | refine below_set ?_ GE234.out | refine below_set ?_ GE242.out | refine below_set ?_ GE244.out) | exact HB.out)) hb)
              clear BK233
              clear BK234
              clear BK242
              clear BK244
              clear HB
              have BK233 := n0_
              have BK234 := n1_
              have BK242 := n2_
              have BK244 := n3_
              have HB := n4_
              clear n0_ n1_ n2_ n3_ n4_
              (try clear hb)
              (try clear hb2)
              (try clear hk)
              (try clear hi)
              refine hK.out _ _ ⟨(blk_cell BK244.out 0).trans rfl, (blk_cell BK244.out 1).trans rfl, (blk_cell BK244.out 2).trans rfl, (blk_cell BK234.out 0).trans rfl, (blk_cell BK234.out 1).trans rfl, (blk_cell BK242.out 0).trans rfl, (blk_cell BK242.out 1).trans rfl, (blk_cell BK242.out 2).trans rfl⟩ (fun hHeld => ?_)
              clear hK K
              refine norm_ (a' := ?_) ?_ ?_
              rotate_left
              · show Act.put _ (some 45) _ = _
                simp only [Act.put, List.setIfInBounds_toArray, List.set_cons_zero, List.set_cons_succ, i64_w, i32_w]
                rfl
              refine pure_ (i := 8) (N := some 11) (v := ?_) (a' := ?_) #[true, true, true, true, true, true, true, true, true, false] rfl rfl (any_of HT_.out (by kernel_rfl)) (fun _ _ _ h => h) (Or.inl ⟨by rfl, ?_⟩) ?_ ?_
              rotate_left
              · intro w'
                go_simp
                with_reducible rfl
              rotate_left
              · simp only [Act.put, List.setIfInBounds_toArray, List.set_cons_zero, List.set_cons_succ, i64_w, i32_w]
                rfl
              refine pure_ (i := 9) (N := some 12) (v := ?_) (a' := ?_) #[true, true, true, true, true, true, true, true, true, true] rfl rfl (any_of HT_.out (by kernel_rfl)) (fun _ _ _ h => h) (Or.inl ⟨by rfl, ?_⟩) ?_ ?_
              rotate_left
              · intro w'
                go_simp
                with_reducible rfl
              rotate_left
              · simp only [Act.put, List.setIfInBounds_toArray, List.set_cons_zero, List.set_cons_succ, i64_w, i32_w]
                rfl
              refine done_ (done_of HT_.out (by kernel_rfl)) ?_
              first
               | clear hm4_0
                 try go_wp2
                 go_ret
                 exact ⟨by first | rfl | (simp [errW_none, errW_some] <;> rfl) | (simp [*, errW_none, errW_some] <;> rfl), by repeat (first | (with_reducible first | exact HB.out | apply below_alloc | apply pw_below_drewN | apply below_drew1 | refine below_set ?_ GE233.out | refine below_set ?_ GE234.out | refine below_set ?_ GE242.out | refine below_set ?_ GE244.out) | exact HB.out)⟩
               | clear hm4_1
                 have hczzc1 : wzc4.cell? ⟨gb244, 0, none⟩ = some (.string ((rd_T40 l0_0 x34_1).f0)) := (blk_cell BK244.out 0).trans rfl
                 have hczzc2 : wzc4.cell? ⟨gb244, 1, none⟩ = some (.int .i64 ((rd_T40 l0_0 x34_1).f1.f0)) := (blk_cell BK244.out 1).trans rfl
                 have hczzc3 : wzc4.cell? ⟨gb244, 2, none⟩ = some (.int .i64 ((rd_T40 l0_0 x34_1).f1.f1)) := (blk_cell BK244.out 2).trans rfl
                 have hfzzc1 := blk_frozen BK244.out 0
                 have hfzzc2 := blk_frozen BK244.out 1
                 have hfzzc3 := blk_frozen BK244.out 2
                 try go_wp2
                 go_ret
                 exact ⟨by first | rfl | (simp [errW_none, errW_some] <;> rfl) | (simp [*, errW_none, errW_some] <;> rfl), by repeat (first | (with_reducible first | exact HB.out | apply below_alloc | apply pw_below_drewN | apply below_drew1 | refine below_set ?_ GE233.out | refine below_set ?_ GE234.out | refine below_set ?_ GE242.out | refine below_set ?_ GE244.out) | exact HB.out)⟩
            | clear hm4_4
              have hnbzc1 := NB242_233.out
              have hnczc1 := NB233_242.out
              have hnbzc2 := NB242_234.out
              have hnczc2 := NB234_242.out
              have hczzc1 : wr.cell? ⟨gb242, 0, none⟩ = some (.string t238) := (blk_cell BK242.out 0).trans rfl
              have hczzc2 : wr.cell? ⟨gb242, 1, none⟩ = some (.int .i64 t239) := (blk_cell BK242.out 1).trans rfl
              have hczzc3 : wr.cell? ⟨gb242, 2, none⟩ = some (.int .i64 t240) := (blk_cell BK242.out 2).trans rfl
              have hfzzc1 := blk_frozen BK242.out 0
              have hfzzc2 := blk_frozen BK242.out 1
              have hfzzc3 := blk_frozen BK242.out 2
              go_wp2
              go_ret
              exact ⟨by first | rfl | (simp [errW_none, errW_some] <;> rfl) | (simp [*, errW_none, errW_some] <;> rfl), by repeat (first | (with_reducible first | exact HB.out | apply below_alloc | apply pw_below_drewN | apply below_drew1 | refine below_set ?_ GE233.out | refine below_set ?_ GE234.out | refine below_set ?_ GE242.out) | exact HB.out)⟩
            | clear hm4_5
              go_wp2
              go_ret
              exact ⟨by first | rfl | (simp [errW_none, errW_some] <;> rfl) | (simp [*, errW_none, errW_some] <;> rfl), by repeat (first | (with_reducible first | exact HB.out | apply below_alloc | apply pw_below_drewN | apply below_drew1 | refine below_set ?_ GE233.out | refine below_set ?_ GE234.out | refine below_set ?_ GE242.out) | exact HB.out)⟩
         | (first | (have _hm := hm4_2) | (have _hm := hm4_3))
           have H' := Aside0.mk H
           clear H
           have p243 : 0 ≤ (x34_1 : Int) := of_decide_eq_true (by first | (with_reducible assumption) | assumption)
           have q243 : x34_1 < (l0_0.length : Int) := of_decide_eq_true (by first | (with_reducible assumption) | assumption)
           obtain ⟨ad243, e243, hx243_0, hx243_1, hx243_2⟩ := at_T40 HR0_0.out x34_1 p243 q243
           cases e243
           replace hx243_0 := (HB.out.cell (World.block_lt_of_cell? w _ hx243_0)).trans hx243_0
           replace hx243_1 := (HB.out.cell (World.block_lt_of_cell? w _ hx243_1)).trans hx243_1
           replace hx243_2 := (HB.out.cell (World.block_lt_of_cell? w _ hx243_2)).trans hx243_2
           replace p243 := eq_true p243
           replace q243 := eq_true q243
           try go_wp2_with (first | ((with_reducible refine gate_dst (N := 10) rfl ?_); refine box_event ?hg (N := 10) ?hd (cs := #[.string (⟨#[]⟩ : ByteArray), .int .i64 0, .int .i64 0]) (t := 40) ?hr ?_; (case hd => rfl); (case hg => rfl); (case hr => first | (go_simp; done) | (go_simp; rfl)); intro gb244 hg wxbafb1 hbox hb; have n0_ := Aside0.mk (blk_below (g := gb233) (o := .cells #[.slice (some ad243) l0_0.length c0_0, .slice A0_1 l0_1.length c0_1] 25 (0, 0)) (by (with_reducible repeat (first | refine blk_drewN ?_ _ | refine blk_drew ?_ | refine blk_alloc ?_ _)); exact BK233.out) hb); have n1_ := Aside0.mk (blk_below (g := gb234) (o := .cells #[.int .i64 a1_0, .int .i64 a1_1] 36 (0, 0)) (by (with_reducible repeat (first | refine blk_drewN ?_ _ | refine blk_drew ?_ | refine blk_alloc ?_ _)); exact BK234.out) hb); have n2_ := Aside0.mk (blk_below (g := gb242) (o := .cells #[.string t238, .int .i64 t239, .int .i64 t240] 40 (0, 0)) (by (with_reducible repeat (first | refine blk_drewN ?_ _ | refine blk_drew ?_ | refine blk_alloc ?_ _)); exact BK242.out) hb); have n3_ := Aside0.mk (below_step (by repeat (first | (with_reducible first | exact HB.out | apply below_alloc | apply pw_below_drewN | apply below_drew1 | refine below_set ?_ GE233.out | refine below_set ?_ GE234.out | refine below_set ?_ GE242.out) | exact HB.out)) hb); have n4_ := Aside0.mk (hbox); have n5_ := Aside0.mk ((by rw [hg]; exact (below_size (by repeat (first | (with_reducible first | exact HB.out | apply below_alloc | apply pw_below_drewN | apply below_drew1 | refine below_set ?_ GE233.out | refine below_set ?_ GE234.out | refine below_set ?_ GE242.out) | exact HB.out))) : w.heap.size ≤ gb244)); have n6_ := Aside0.mk ((by rw [hg]; exact (below_size (by repeat (first | (with_reducible first | exact HB.out | apply below_alloc | apply pw_below_drewN | apply below_drew1 | refine below_set ?_ GE233.out | refine below_set ?_ GE234.out | refine below_set ?_ GE242.out) | exact HB.out))) : w.heap.size ≤ gb244)); have n7_ := Aside0.mk ((by rw [hg]; exact Nat.ne_of_lt (blk_lt (g := gb233) (o := .cells #[.slice (some ad243) l0_0.length c0_0, .slice A0_1 l0_1.length c0_1] 25 (0, 0)) (by (with_reducible repeat (first | refine blk_drewN ?_ _ | refine blk_drew ?_ | refine blk_alloc ?_ _)); exact BK233.out)) : gb233 ≠ gb244)); have n8_ := Aside0.mk ((by rw [hg]; exact Nat.ne_of_gt (blk_lt (g := gb233) (o := .cells #[.slice (some ad243) l0_0.length c0_0, .slice A0_1 l0_1.length c0_1] 25 (0, 0)) (by (with_reducible repeat (first | refine blk_drewN ?_ _ | refine blk_drew ?_ | refine blk_alloc ?_ _)); exact BK233.out)) : gb244 ≠ gb233)); have n9_ := Aside0.mk ((by rw [hg]; exact Nat.ne_of_lt (blk_lt (g := gb234) (o := .cells #[.int .i64 a1_0, .int .i64 a1_1] 36 (0, 0)) (by (with_reducible repeat (first | refine blk_drewN ?_ _ | refine blk_drew ?_ | refine blk_alloc ?_ _)); exact BK234.out)) : gb234 ≠ gb244)); have n10_ := Aside0.mk ((by rw [hg]; exact Nat.ne_of_gt (blk_lt (g := gb234) (o := .cells #[.int .i64 a1_0, .int .i64 a1_1] 36 (0, 0)) (by (with_reducible repeat (first | refine blk_drewN ?_ _ | refine blk_drew ?_ | refine blk_alloc ?_ _)); exact BK234.out)) : gb244 ≠ gb234)); have n11_ := Aside0.mk ((by rw [hg]; exact Nat.ne_of_lt (blk_lt (g := gb242) (o := .cells #[.string t238, .int .i64 t239, .int .i64 t240] 40 (0, 0)) (by (with_reducible repeat (first | refine blk_drewN ?_ _ | refine blk_drew ?_ | refine blk_alloc ?_ _)); exact BK242.out)) : gb242 ≠ gb244)); have n12_ := Aside0.mk ((by rw [hg]; exact Nat.ne_of_gt (blk_lt (g := gb242) (o := .cells #[.string t238, .int .i64 t239, .int .i64 t240] 40 (0, 0)) (by (with_reducible repeat (first | refine blk_drewN ?_ _ | refine blk_drew ?_ | refine blk_alloc ?_ _)); exact BK242.out)) : gb244 ≠ gb242)); clear BK233; clear BK234; clear BK242; clear HB; have BK233 := n0_; have BK234 := n1_; have BK242 := n2_; have HB := n3_; have BK244 := n4_; have GW244 := n5_; have GE244 := n6_; have NB233_244 := n7_; have NB244_233 := n8_; have NB234_244 := n9_; have NB244_234 := n10_; have NB242_244 := n11_; have NB244_242 := n12_; clear n0_ n1_ n2_ n3_ n4_ n5_ n6_ n7_ n8_ n9_ n10_ n11_ n12_; clear hb hbox hg; have hnbxbafb1 := NB244_233.out; have hncxbafb1 := NB233_244.out; have hnbxbafb2 := NB244_234.out; have hncxbafb2 := NB234_244.out; have hnbxbafb3 := NB244_242.out; have hncxbafb3 := NB242_244.out; have hczxbafb1 : wxbafb1.cell? ⟨gb244, 0, none⟩ = some (.string (⟨#[]⟩ : ByteArray)) := (blk_cell BK244.out 0).trans rfl; have hczxbafb2 : wxbafb1.cell? ⟨gb244, 1, none⟩ = some (.int .i64 0) := (blk_cell BK244.out 1).trans rfl; have hczxbafb3 : wxbafb1.cell? ⟨gb244, 2, none⟩ = some (.int .i64 0) := (blk_cell BK244.out 2).trans rfl; have hfzxbafb1 := blk_frozen BK244.out 0; have hfzxbafb2 := blk_frozen BK244.out 1; have hfzxbafb3 := blk_frozen BK244.out 2))
           have n0_ : Aside0 ((((wxbafb1.setCell ⟨gb244, 0, none⟩ (.string ((rd_T40 l0_0 x34_1).f0))).setCell ⟨gb244, 1, none⟩ (.int .i64 ((rd_T40 l0_0 x34_1).f1.f0))).setCell ⟨gb244, 2, none⟩ (.int .i64 ((rd_T40 l0_0 x34_1).f1.f1))).heap[gb233]? = some (.cells #[.slice (some ad243) l0_0.length c0_0, .slice A0_1 l0_1.length c0_1] 25 (0, 0))) := ⟨by (with_reducible repeat (first | refine blk_drewN ?_ _ | refine blk_drew ?_ | refine blk_alloc ?_ _)); refine blk_far ?_ NB233_244.out _; (with_reducible repeat (first | refine blk_drewN ?_ _ | refine blk_drew ?_ | refine blk_alloc ?_ _)); refine blk_far ?_ NB233_244.out _; (with_reducible repeat (first | refine blk_drewN ?_ _ | refine blk_drew ?_ | refine blk_alloc ?_ _)); refine blk_far ?_ NB233_244.out _; (with_reducible repeat (first | refine blk_drewN ?_ _ | refine blk_drew ?_ | refine blk_alloc ?_ _)); exact BK233.out⟩
           have n1_ : Aside0 ((((wxbafb1.setCell ⟨gb244, 0, none⟩ (.string ((rd_T40 l0_0 x34_1).f0))).setCell ⟨gb244, 1, none⟩ (.int .i64 ((rd_T40 l0_0 x34_1).f1.f0))).setCell ⟨gb244, 2, none⟩ (.int .i64 ((rd_T40 l0_0 x34_1).f1.f1))).heap[gb234]? = some (.cells #[.int .i64 a1_0, .int .i64 a1_1] 36 (0, 0))) := ⟨by (with_reducible repeat (first | refine blk_drewN ?_ _ | refine blk_drew ?_ | refine blk_alloc ?_ _)); refine blk_far ?_ NB234_244.out _; (with_reducible repeat (first | refine blk_drewN ?_ _ | refine blk_drew ?_ | refine blk_alloc ?_ _)); refine blk_far ?_ NB234_244.out _; (with_reducible repeat (first | refine blk_drewN ?_ _ | refine blk_drew ?_ | refine blk_alloc ?_ _)); refine blk_far ?_ NB234_244.out _; (with_reducible repeat (first | refine blk_drewN ?_ _ | refine blk_drew ?_ | refine blk_alloc ?_ _)); exact BK234.out⟩
           have n2_ : Aside0 ((((wxbafb1.setCell ⟨gb244, 0, none⟩ (.string ((rd_T40 l0_0 x34_1).f0))).setCell ⟨gb244, 1, none⟩ (.int .i64 ((rd_T40 l0_0 x34_1).f1.f0))).setCell ⟨gb244, 2, none⟩ (.int .i64 ((rd_T40 l0_0 x34_1).f1.f1))).heap[gb242]? = some (.cells #[.string t238, .int .i64 t239, .int .i64 t240] 40 (0, 0))) := ⟨by (with_reducible repeat (first | refine blk_drewN ?_ _ | refine blk_drew ?_ | refine blk_alloc ?_ _)); refine blk_far ?_ NB242_244.out _; (with_reducible repeat (first | refine blk_drewN ?_ _ | refine blk_drew ?_ | refine blk_alloc ?_ _)); refine blk_far ?_ NB242_244.out _; (with_reducible repeat (first | refine blk_drewN ?_ _ | refine blk_drew ?_ | refine blk_alloc ?_ _)); refine blk_far ?_ NB242_244.out _; (with_reducible repeat (first | refine blk_drewN ?_ _ | refine blk_drew ?_ | refine blk_alloc ?_ _)); exact BK242.out⟩
           have n3_ : Aside0 ((((wxbafb1.setCell ⟨gb244, 0, none⟩ (.string ((rd_T40 l0_0 x34_1).f0))).setCell ⟨gb244, 1, none⟩ (.int .i64 ((rd_T40 l0_0 x34_1).f1.f0))).setCell ⟨gb244, 2, none⟩ (.int .i64 ((rd_T40 l0_0 x34_1).f1.f1))).heap[gb244]? = some (.cells #[.string ((rd_T40 l0_0 x34_1).f0), .int .i64 ((rd_T40 l0_0 x34_1).f1.f0), .int .i64 ((rd_T40 l0_0 x34_1).f1.f1)] 40 (0, 0))) := ⟨by (with_reducible repeat (first | refine blk_drewN ?_ _ | refine blk_drew ?_ | refine blk_alloc ?_ _)); refine blk_put (cs := #[.string ((rd_T40 l0_0 x34_1).f0), .int .i64 ((rd_T40 l0_0 x34_1).f1.f0), .int .i64 0]) ?_ 2 _ rfl; (with_reducible repeat (first | refine blk_drewN ?_ _ | refine blk_drew ?_ | refine blk_alloc ?_ _)); refine blk_put (cs := #[.string ((rd_T40 l0_0 x34_1).f0), .int .i64 0, .int .i64 0]) ?_ 1 _ rfl; (with_reducible repeat (first | refine blk_drewN ?_ _ | refine blk_drew ?_ | refine blk_alloc ?_ _)); refine blk_put (cs := #[.string (⟨#[]⟩ : ByteArray), .int .i64 0, .int .i64 0]) ?_ 0 _ rfl; (with_reducible repeat (first | refine blk_drewN ?_ _ | refine blk_drew ?_ | refine blk_alloc ?_ _)); exact BK244.out⟩
           have n4_ : Aside0 (Below w.heap.size w (((wxbafb1.setCell ⟨gb244, 0, none⟩ (.string ((rd_T40 l0_0 x34_1).f0))).setCell ⟨gb244, 1, none⟩ (.int .i64 ((rd_T40 l0_0 x34_1).f1.f0))).setCell ⟨gb244, 2, none⟩ (.int .i64 ((rd_T40 l0_0 x34_1).f1.f1)))) := ⟨by repeat (first | (with_reducible first | exact HB.out | apply below_alloc | apply pw_below_drewN | apply below_drew1 | refine below_set ?_ GE233.out | refine below_set ?_ GE234.out | refine below_set ?_ GE242.out | refine below_set ?_ GE244.out) | exact HB.out)⟩
           (try clear BK233)
           (try clear BK234)
           (try clear BK242)
           (try clear BK244)
           (try clear HB)
           generalize (((wxbafb1.setCell ⟨gb244, 0, none⟩ (.string ((rd_T40 l0_0 x34_1).f0))).setCell ⟨gb244, 1, none⟩ (.int .i64 ((rd_T40 l0_0 x34_1).f1.f0))).setCell ⟨gb244, 2, none⟩ (.int .i64 ((rd_T40 l0_0 x34_1).f1.f1))) = wzc1 at n0_ n1_ n2_ n3_ n4_ ⊢
           have BK233 := n0_
           have BK234 := n1_
           have BK242 := n2_
           have BK244 := n3_
           have HB := n4_
           clear n0_ n1_ n2_ n3_ n4_
           have n0_ := Aside0.mk (blk_drew BK233.out)
           have n1_ := Aside0.mk (blk_drew BK234.out)
           have n2_ := Aside0.mk (blk_drew BK242.out)
           have n3_ := Aside0.mk (blk_drew BK244.out)
           have n4_ := Aside0.mk (below_drew1 HB.out)
           clear BK233
           clear BK234
           clear BK242
           clear BK244
           clear HB
           have BK233 := n0_
           have BK234 := n1_
           have BK242 := n2_
           have BK244 := n3_
           have HB := n4_
           clear n0_ n1_ n2_ n3_ n4_
           refine start_ (n := 10) (S := fun w' => w'.cell? ⟨gb244, 0, none⟩ = some (.string ((rd_T40 l0_0 x34_1).f0)) ∧ w'.cell? ⟨gb244, 1, none⟩ = some (.int .i64 ((rd_T40 l0_0 x34_1).f1.f0)) ∧ w'.cell? ⟨gb244, 2, none⟩ = some (.int .i64 ((rd_T40 l0_0 x34_1).f1.f1)) ∧ w'.cell? ⟨gb234, 0, none⟩ = some (.int .i64 a1_0) ∧ w'.cell? ⟨gb234, 1, none⟩ = some (.int .i64 a1_1) ∧ w'.cell? ⟨gb242, 0, none⟩ = some (.string t238) ∧ w'.cell? ⟨gb242, 1, none⟩ = some (.int .i64 t239) ∧ w'.cell? ⟨gb242, 2, none⟩ = some (.int .i64 t240)) (ds := []) #[false, false, false, false, false, false, false, false, false, false] (by kernel_rfl) rfl rfl ⟨(blk_cell BK244.out 0).trans rfl, (blk_cell BK244.out 1).trans rfl, (blk_cell BK244.out 2).trans rfl, (blk_cell BK234.out 0).trans rfl, (blk_cell BK234.out 1).trans rfl, (blk_cell BK242.out 0).trans rfl, (blk_cell BK242.out 1).trans rfl, (blk_cell BK242.out 2).trans rfl⟩ (fun hHeld => ?_); refine with_tabW skywaykeep1_ChartNear.tab10 skywaykeep1_ChartNear.bits10 (fun HT_ HW_ => ?_)
           generalize wzc1.drew = wzc2 at BK233 BK234 BK242 BK244 HB hHeld ⊢
           refine pure_ (i := 0) (N := some 38) (v := ?_) (a' := ?_) #[true, false, false, false, false, false, false, false, false, false] rfl rfl (any_of HT_.out (by kernel_rfl)) (fun _ _ _ h => h) (Or.inl ⟨by rfl, ?_⟩) ?_ ?_
           rotate_left
           · intro w'
             go_simp
             with_reducible rfl
           rotate_left
           · simp only [Act.put, List.setIfInBounds_toArray, List.set_cons_zero, List.set_cons_succ, i64_w, i32_w]
             rfl
           refine pure_ (i := 4) (N := some 42) (v := ?_) (a' := ?_) #[true, false, false, false, true, false, false, false, false, false] rfl rfl (any_of HT_.out (by kernel_rfl)) (fun _ _ _ h => h) (Or.inl ⟨by rfl, ?_⟩) ?_ ?_
           rotate_left
           · intro w'
             go_simp
             with_reducible rfl
           rotate_left
           · simp only [Act.put, List.setIfInBounds_toArray, List.set_cons_zero, List.set_cons_succ, i64_w, i32_w]
             rfl
           refine take_ (i := 1) (N := some 39) (v := ?_) (a' := ?_) #[true, true, false, false, true, false, false, false, false, false] rfl rfl (take_ofW HT_.out HW_.out (by kernel_rfl)) (fun _ _ _ h => h) (Or.inl ⟨by rfl, ?_⟩) hHeld ?_ ?_
           rotate_left
           · rintro w' ⟨s0, s1, s2, s3, s4, s5, s6, s7⟩
             go_simp
             with_reducible rfl
           rotate_left
           · simp only [Act.put, List.setIfInBounds_toArray, List.set_cons_zero, List.set_cons_succ, i64_w, i32_w]
             rfl
           refine take_ (i := 2) (N := some 40) (v := ?_) (a' := ?_) #[true, true, true, false, true, false, false, false, false, false] rfl rfl (take_ofW HT_.out HW_.out (by kernel_rfl)) (fun _ _ _ h => h) (Or.inl ⟨by rfl, ?_⟩) hHeld ?_ ?_
           rotate_left
           · rintro w' ⟨s0, s1, s2, s3, s4, s5, s6, s7⟩
             go_simp
             with_reducible rfl
           rotate_left
           · simp only [Act.put, List.setIfInBounds_toArray, List.set_cons_zero, List.set_cons_succ, i64_w, i32_w]
             rfl
           refine take_ (i := 5) (N := some 43) (v := ?_) (a' := ?_) #[true, true, true, false, true, true, false, false, false, false] rfl rfl (take_ofW HT_.out HW_.out (by kernel_rfl)) (fun _ _ _ h => h) (Or.inl ⟨by rfl, ?_⟩) hHeld ?_ ?_
           rotate_left
           · rintro w' ⟨s0, s1, s2, s3, s4, s5, s6, s7⟩
             go_simp
             with_reducible rfl
           rotate_left
           · simp only [Act.put, List.setIfInBounds_toArray, List.set_cons_zero, List.set_cons_succ, i64_w, i32_w]
             rfl
           refine take_ (i := 6) (N := some 44) (v := ?_) (a' := ?_) #[true, true, true, false, true, true, true, false, false, false] rfl rfl (take_ofW HT_.out HW_.out (by kernel_rfl)) (fun _ _ _ h => h) (Or.inl ⟨by rfl, ?_⟩) hHeld ?_ ?_
           rotate_left
           · rintro w' ⟨s0, s1, s2, s3, s4, s5, s6, s7⟩
             go_simp
             with_reducible rfl
           rotate_left
           · simp only [Act.put, List.setIfInBounds_toArray, List.set_cons_zero, List.set_cons_succ, i64_w, i32_w]
             rfl
           refine one_ (i := 3) (N := some 41) #[true, true, true, true, true, true, true, false, false, false] rfl rfl (one_of HT_.out (by kernel_rfl)) (by decide) (fun K hK => ?_)
           refine goes_ Try.func20 (by kernel_rfl) rfl #[.agg #[.int .i64 ((rd_T40 l0_0 x34_1).f1.f0), .int .i64 ((rd_T40 l0_0 x34_1).f1.f1)], .agg #[.int .i64 a1_0, .int .i64 a1_1]] (by rfl) rfl rfl (by (try simp only [List.map_toArray, List.map_cons, List.map_nil]); first | done | rfl | (simp only [List.length_drop, List.length_take]; rfl)) ?_
           with_reducible refine (plane_Square.calls ((rd_T40 l0_0 x34_1).f1.f0) ((rd_T40 l0_0 x34_1).f1.f1) a1_0 a1_1 t245 _ A25.out).mono ?_
           rintro e wzc3 ⟨rfl, hb⟩
           refine ⟨_, rfl, ?_⟩
           have n0_ := Aside0.mk (blk_below (g := gb233) (o := .cells #[.slice (some ad243) l0_0.length c0_0, .slice A0_1 l0_1.length c0_1] 25 (0, 0)) (by (with_reducible repeat (first | refine blk_drewN ?_ _ | refine blk_drew ?_ | refine blk_alloc ?_ _)); exact BK233.out) hb)
           have n1_ := Aside0.mk (blk_below (g := gb234) (o := .cells #[.int .i64 a1_0, .int .i64 a1_1] 36 (0, 0)) (by (with_reducible repeat (first | refine blk_drewN ?_ _ | refine blk_drew ?_ | refine blk_alloc ?_ _)); exact BK234.out) hb)
           have n2_ := Aside0.mk (blk_below (g := gb242) (o := .cells #[.string t238, .int .i64 t239, .int .i64 t240] 40 (0, 0)) (by (with_reducible repeat (first | refine blk_drewN ?_ _ | refine blk_drew ?_ | refine blk_alloc ?_ _)); exact BK242.out) hb)
           have n3_ := Aside0.mk (blk_below (g := gb244) (o := .cells #[.string ((rd_T40 l0_0 x34_1).f0), .int .i64 ((rd_T40 l0_0 x34_1).f1.f0), .int .i64 ((rd_T40 l0_0 x34_1).f1.f1)] 40 (0, 0)) (by (with_reducible repeat (first | refine blk_drewN ?_ _ | refine blk_drew ?_ | refine blk_alloc ?_ _)); exact BK244.out) hb)
           have n4_ := Aside0.mk (below_step (by repeat (first | (with_reducible first | exact HB.out | apply below_alloc | apply pw_below_drewN | apply below_drew1 | refine below_set ?_ GE233.out | refine below_set ?_ GE234.out | refine below_set ?_ GE242.out | refine below_set ?_ GE244.out) | exact HB.out)) hb)
           clear BK233
           clear BK234
           clear BK242
           clear BK244
           clear HB
           have BK233 := n0_
           have BK234 := n1_
           have BK242 := n2_
           have BK244 := n3_
           have HB := n4_
           clear n0_ n1_ n2_ n3_ n4_
           (try clear hb)
           (try clear hb2)
           (try clear hk)
           (try clear hi)
           refine hK.out _ _ ⟨(blk_cell BK244.out 0).trans rfl, (blk_cell BK244.out 1).trans rfl, (blk_cell BK244.out 2).trans rfl, (blk_cell BK234.out 0).trans rfl, (blk_cell BK234.out 1).trans rfl, (blk_cell BK242.out 0).trans rfl, (blk_cell BK242.out 1).trans rfl, (blk_cell BK242.out 2).trans rfl⟩ (fun hHeld => ?_)
           clear hK K
           refine norm_ (a' := ?_) ?_ ?_
           rotate_left
           · show Act.put _ (some 41) _ = _
             simp only [Act.put, List.setIfInBounds_toArray, List.set_cons_zero, List.set_cons_succ, i64_w, i32_w]
             rfl
           refine one_ (i := 7) (N := some 45) #[true, true, true, true, true, true, true, true, false, false] rfl rfl (one_of HT_.out (by kernel_rfl)) (by decide) (fun K hK => ?_)
           refine goes_ Try.func20 (by kernel_rfl) rfl #[.agg #[.int .i64 t239, .int .i64 t240], .agg #[.int .i64 a1_0, .int .i64 a1_1]] (by rfl) rfl rfl (by (try simp only [List.map_toArray, List.map_cons, List.map_nil]); first | done | rfl | (simp only [List.length_drop, List.length_take]; rfl)) ?_
           with_reducible refine (plane_Square.calls t239 t240 a1_0 a1_1 t246 _ A26.out).mono ?_
           rintro e wzc4 ⟨rfl, hb⟩
           refine ⟨_, rfl, ?_⟩
           have n0_ := Aside0.mk (blk_below (g := gb233) (o := .cells #[.slice (some ad243) l0_0.length c0_0, .slice A0_1 l0_1.length c0_1] 25 (0, 0)) (by (with_reducible repeat (first | refine blk_drewN ?_ _ | refine blk_drew ?_ | refine blk_alloc ?_ _)); exact BK233.out) hb)
           have n1_ := Aside0.mk (blk_below (g := gb234) (o := .cells #[.int .i64 a1_0, .int .i64 a1_1] 36 (0, 0)) (by (with_reducible repeat (first | refine blk_drewN ?_ _ | refine blk_drew ?_ | refine blk_alloc ?_ _)); exact BK234.out) hb)
           have n2_ := Aside0.mk (blk_below (g := gb242) (o := .cells #[.string t238, .int .i64 t239, .int .i64 t240] 40 (0, 0)) (by (with_reducible repeat (first | refine blk_drewN ?_ _ | refine blk_drew ?_ | refine blk_alloc ?_ _)); exact BK242.out) hb)
           have n3_ := Aside0.mk (blk_below (g := gb244) (o := .cells #[.string ((rd_T40 l0_0 x34_1).f0), .int .i64 ((rd_T40 l0_0 x34_1).f1.f0), .int .i64 ((rd_T40 l0_0 x34_1).f1.f1)] 40 (0, 0)) (by (with_reducible repeat (first | refine blk_drewN ?_ _ | refine blk_drew ?_ | refine blk_alloc ?_ _)); exact BK244.out) hb)
           have n4_ := Aside0.mk (below_step (by repeat (first | (with_reducible first | exact HB.out | apply below_alloc | apply pw_below_drewN | apply below_drew1 | refine below_set ?_ GE233.out | refine below_set ?_ GE234.out | refine below_set ?_ GE242.out | refine below_set ?_ GE244.out) | exact HB.out)) hb)
           clear BK233
           clear BK234
           clear BK242
           clear BK244
           clear HB
           have BK233 := n0_
           have BK234 := n1_
           have BK242 := n2_
           have BK244 := n3_
           have HB := n4_
           clear n0_ n1_ n2_ n3_ n4_
           (try clear hb)
           (try clear hb2)
           (try clear hk)
           (try clear hi)
           refine hK.out _ _ ⟨(blk_cell BK244.out 0).trans rfl, (blk_cell BK244.out 1).trans rfl, (blk_cell BK244.out 2).trans rfl, (blk_cell BK234.out 0).trans rfl, (blk_cell BK234.out 1).trans rfl, (blk_cell BK242.out 0).trans rfl, (blk_cell BK242.out 1).trans rfl, (blk_cell BK242.out 2).trans rfl⟩ (fun hHeld => ?_)
           clear hK K
           refine norm_ (a' := ?_) ?_ ?_
           rotate_left
           · show Act.put _ (some 45) _ = _
             simp only [Act.put, List.setIfInBounds_toArray, List.set_cons_zero, List.set_cons_succ, i64_w, i32_w]
             rfl
           refine pure_ (i := 8) (N := some 11) (v := ?_) (a' := ?_) #[true, true, true, true, true, true, true, true, true, false] rfl rfl (any_of HT_.out (by kernel_rfl)) (fun _ _ _ h => h) (Or.inl ⟨by rfl, ?_⟩) ?_ ?_
           rotate_left
           · intro w'
             go_simp
             with_reducible rfl
           rotate_left
           · simp only [Act.put, List.setIfInBounds_toArray, List.set_cons_zero, List.set_cons_succ, i64_w, i32_w]
             rfl
           refine pure_ (i := 9) (N := some 12) (v := ?_) (a' := ?_) #[true, true, true, true, true, true, true, true, true, true] rfl rfl (any_of HT_.out (by kernel_rfl)) (fun _ _ _ h => h) (Or.inl ⟨by rfl, ?_⟩) ?_ ?_
           rotate_left
           · intro w'
             go_simp
             with_reducible rfl
           rotate_left
           · simp only [Act.put, List.setIfInBounds_toArray, List.set_cons_zero, List.set_cons_succ, i64_w, i32_w]
             rfl
           refine done_ (done_of HT_.out (by kernel_rfl)) ?_
           first
            | clear hm4_2
              have hczzc1 : wzc4.cell? ⟨gb244, 0, none⟩ = some (.string ((rd_T40 l0_0 x34_1).f0)) := (blk_cell BK244.out 0).trans rfl
              have hczzc2 : wzc4.cell? ⟨gb244, 1, none⟩ = some (.int .i64 ((rd_T40 l0_0 x34_1).f1.f0)) := (blk_cell BK244.out 1).trans rfl
              have hczzc3 : wzc4.cell? ⟨gb244, 2, none⟩ = some (.int .i64 ((rd_T40 l0_0 x34_1).f1.f1)) := (blk_cell BK244.out 2).trans rfl
              have hfzzc1 := blk_frozen BK244.out 0
              have hfzzc2 := blk_frozen BK244.out 1
              have hfzzc3 := blk_frozen BK244.out 2
              try go_wp2
              go_roundg k1
              case measure => have := HK1.out; omega
              case rel => exact ⟨(wrap64 (x34_1 + 1)), (by first | rfl | (simp; done) | (simp [*]; done)), H', ⟨by have := HK1.out; omega⟩, ⟨by (with_reducible repeat (first | refine blk_drewN ?_ _ | refine blk_drew ?_ | refine blk_alloc ?_ _)); exact BK233.out⟩, ⟨by (with_reducible repeat (first | refine blk_drewN ?_ _ | refine blk_drew ?_ | refine blk_alloc ?_ _)); exact BK234.out⟩, ⟨by (with_reducible repeat (first | refine blk_drewN ?_ _ | refine blk_drew ?_ | refine blk_alloc ?_ _)); exact BK242.out⟩, ⟨by repeat (first | (with_reducible first | exact HB.out | apply below_alloc | apply pw_below_drewN | apply below_drew1 | refine below_set ?_ GE233.out | refine below_set ?_ GE234.out | refine below_set ?_ GE242.out | refine below_set ?_ GE244.out) | exact HB.out)⟩⟩
            | clear hm4_3
              try go_wp2
              go_roundg k1
              case measure => have := HK1.out; omega
              case rel => exact ⟨(wrap64 (x34_1 + 1)), (by first | rfl | (simp; done) | (simp [*]; done)), H', ⟨by have := HK1.out; omega⟩, ⟨by (with_reducible repeat (first | refine blk_drewN ?_ _ | refine blk_drew ?_ | refine blk_alloc ?_ _)); exact BK233.out⟩, ⟨by (with_reducible repeat (first | refine blk_drewN ?_ _ | refine blk_drew ?_ | refine blk_alloc ?_ _)); exact BK234.out⟩, ⟨by (with_reducible repeat (first | refine blk_drewN ?_ _ | refine blk_drew ?_ | refine blk_alloc ?_ _)); exact BK242.out⟩, ⟨by repeat (first | (with_reducible first | exact HB.out | apply below_alloc | apply pw_below_drewN | apply below_drew1 | refine below_set ?_ GE233.out | refine below_set ?_ GE234.out | refine below_set ?_ GE242.out | refine below_set ?_ GE244.out) | exact HB.out)⟩⟩
   | clear hm1_1
     obtain rfl := Option.some.inj H
     go_enter Try.func5, Try.ntmps5
     go_wp2_with (first | ((with_reducible refine gate_dst (N := 2) rfl ?_); refine box_event ?hg (N := 2) ?hd (cs := #[.slice A0_0 l0_0.length c0_0, .slice A0_1 l0_1.length c0_1]) (t := 25) ?hr ?_; (case hd => rfl); (case hg => rfl); (case hr => first | (go_simp; done) | (go_simp; rfl)); intro gb233 hg wx007f1 hbox hb; have n0_ := Aside0.mk (below_step (by repeat (first | (with_reducible first | exact HB.out | apply below_alloc | apply pw_below_drewN | apply below_drew1) | exact HB.out)) hb); have n1_ := Aside0.mk (hbox); have n2_ := Aside0.mk ((by rw [hg]; exact (below_size (by repeat (first | (with_reducible first | exact HB.out | apply below_alloc | apply pw_below_drewN | apply below_drew1) | exact HB.out))) : w.heap.size ≤ gb233)); have n3_ := Aside0.mk ((by rw [hg]; exact (below_size (by repeat (first | (with_reducible first | exact HB.out | apply below_alloc | apply pw_below_drewN | apply below_drew1) | exact HB.out))) : w.heap.size ≤ gb233)); clear HB; have HB := n0_; have BK233 := n1_; have GW233 := n2_; have GE233 := n3_; clear n0_ n1_ n2_ n3_; clear hb hbox hg) | ((with_reducible refine gate_dst (N := 3) rfl ?_); refine box_event ?hg (N := 3) ?hd (cs := #[.int .i64 a1_0, .int .i64 a1_1]) (t := 36) ?hr ?_; (case hd => rfl); (case hg => rfl); (case hr => first | (go_simp; done) | (go_simp; rfl)); intro gb234 hg wx9a101 hbox hb; have n0_ := Aside0.mk (blk_below (g := gb233) (o := .cells #[.slice A0_0 l0_0.length c0_0, .slice A0_1 l0_1.length c0_1] 25 (0, 0)) (by (with_reducible repeat (first | refine blk_drewN ?_ _ | refine blk_drew ?_ | refine blk_alloc ?_ _)); exact BK233.out) hb); have n1_ := Aside0.mk (below_step (by repeat (first | (with_reducible first | exact HB.out | apply below_alloc | apply pw_below_drewN | apply below_drew1 | refine below_set ?_ GE233.out) | exact HB.out)) hb); have n2_ := Aside0.mk (hbox); have n3_ := Aside0.mk ((by rw [hg]; exact (below_size (by repeat (first | (with_reducible first | exact HB.out | apply below_alloc | apply pw_below_drewN | apply below_drew1 | refine below_set ?_ GE233.out) | exact HB.out))) : w.heap.size ≤ gb234)); have n4_ := Aside0.mk ((by rw [hg]; exact (below_size (by repeat (first | (with_reducible first | exact HB.out | apply below_alloc | apply pw_below_drewN | apply below_drew1 | refine below_set ?_ GE233.out) | exact HB.out))) : w.heap.size ≤ gb234)); have n5_ := Aside0.mk ((by rw [hg]; exact Nat.ne_of_lt (blk_lt (g := gb233) (o := .cells #[.slice A0_0 l0_0.length c0_0, .slice A0_1 l0_1.length c0_1] 25 (0, 0)) (by (with_reducible repeat (first | refine blk_drewN ?_ _ | refine blk_drew ?_ | refine blk_alloc ?_ _)); exact BK233.out)) : gb233 ≠ gb234)); have n6_ := Aside0.mk ((by rw [hg]; exact Nat.ne_of_gt (blk_lt (g := gb233) (o := .cells #[.slice A0_0 l0_0.length c0_0, .slice A0_1 l0_1.length c0_1] 25 (0, 0)) (by (with_reducible repeat (first | refine blk_drewN ?_ _ | refine blk_drew ?_ | refine blk_alloc ?_ _)); exact BK233.out)) : gb234 ≠ gb233)); clear BK233; clear HB; have BK233 := n0_; have HB := n1_; have BK234 := n2_; have GW234 := n3_; have GE234 := n4_; have NB233_234 := n5_; have NB234_233 := n6_; clear n0_ n1_ n2_ n3_ n4_ n5_ n6_; clear hb hbox hg) | ((with_reducible refine gate_callee (f := 15) rfl ?_); refine goesL_ (some 13) rfl rfl Try.func15 (by kernel_rfl) rfl #[] rfl (by (try simp only [List.map_toArray, List.map_cons, List.map_nil]); first | done | rfl | (simp only [List.length_drop, List.length_take]; rfl)) ?_; (with_reducible refine (skywaykeep1_chartWorks.calls k  true _ A3.out).mono ?_); rintro e wxc5201 ⟨rfl, hb⟩; refine ⟨_, rfl, ?_⟩; have n0_ := Aside0.mk (blk_below (g := gb233) (o := .cells #[.slice A0_0 l0_0.length c0_0, .slice A0_1 l0_1.length c0_1] 25 (0, 0)) (by (with_reducible repeat (first | refine blk_drewN ?_ _ | refine blk_drew ?_ | refine blk_alloc ?_ _)); exact BK233.out) hb); have n1_ := Aside0.mk (blk_below (g := gb234) (o := .cells #[.int .i64 a1_0, .int .i64 a1_1] 36 (0, 0)) (by (with_reducible repeat (first | refine blk_drewN ?_ _ | refine blk_drew ?_ | refine blk_alloc ?_ _)); exact BK234.out) hb); have n2_ := Aside0.mk (below_step (by repeat (first | (with_reducible first | exact HB.out | apply below_alloc | apply pw_below_drewN | apply below_drew1 | refine below_set ?_ GE233.out | refine below_set ?_ GE234.out) | exact HB.out)) hb); clear BK233; clear BK234; clear HB; have BK233 := n0_; have BK234 := n1_; have HB := n2_; clear n0_ n1_ n2_; (try clear hb); (try clear hb2); (try clear hk); (try clear hi); have hnbxc5201 := NB233_234.out; have hncxc5201 := NB234_233.out; have hczxc5201 : wxc5201.cell? ⟨gb233, 0, none⟩ = some (.slice A0_0 l0_0.length c0_0) := (blk_cell BK233.out 0).trans rfl; have hczxc5202 : wxc5201.cell? ⟨gb233, 1, none⟩ = some (.slice A0_1 l0_1.length c0_1) := (blk_cell BK233.out 1).trans rfl; have hfzxc5201 := blk_frozen BK233.out 0; have hfzxc5202 := blk_frozen BK233.out 1; have hczxc5203 : wxc5201.cell? ⟨gb234, 0, none⟩ = some (.int .i64 a1_0) := (blk_cell BK234.out 0).trans rfl; have hczxc5204 : wxc5201.cell? ⟨gb234, 1, none⟩ = some (.int .i64 a1_1) := (blk_cell BK234.out 1).trans rfl; have hfzxc5203 := blk_frozen BK234.out 0; have hfzxc5204 := blk_frozen BK234.out 1) | ((with_reducible refine gate_callee (f := 15) rfl ?_); refine goesL_ (some 13) rfl rfl Try.func15 (by kernel_rfl) rfl #[] rfl (by (try simp only [List.map_toArray, List.map_cons, List.map_nil]); first | done | rfl | (simp only [List.length_drop, List.length_take]; rfl)) ?_; (with_reducible refine (skywaykeep1_chartWorks.calls k  false _ A3.out).mono ?_); rintro e wxa8f91 ⟨rfl, hb⟩; refine ⟨_, rfl, ?_⟩; have n0_ := Aside0.mk (blk_below (g := gb233) (o := .cells #[.slice A0_0 l0_0.length c0_0, .slice A0_1 l0_1.length c0_1] 25 (0, 0)) (by (with_reducible repeat (first | refine blk_drewN ?_ _ | refine blk_drew ?_ | refine blk_alloc ?_ _)); exact BK233.out) hb); have n1_ := Aside0.mk (blk_below (g := gb234) (o := .cells #[.int .i64 a1_0, .int .i64 a1_1] 36 (0, 0)) (by (with_reducible repeat (first | refine blk_drewN ?_ _ | refine blk_drew ?_ | refine blk_alloc ?_ _)); exact BK234.out) hb); have n2_ := Aside0.mk (below_step (by repeat (first | (with_reducible first | exact HB.out | apply below_alloc | apply pw_below_drewN | apply below_drew1 | refine below_set ?_ GE233.out | refine below_set ?_ GE234.out) | exact HB.out)) hb); clear BK233; clear BK234; clear HB; have BK233 := n0_; have BK234 := n1_; have HB := n2_; clear n0_ n1_ n2_; (try clear hb); (try clear hb2); (try clear hk); (try clear hi)) | ((with_reducible refine gate_callee (f := 18) rfl ?_); refine goesL_ (some 18) rfl rfl Try.func18 (by kernel_rfl) rfl #[.agg #[.slice A0_0 l0_0.length c0_0, .slice A0_1 l0_1.length c0_1], .agg #[.int .i64 a1_0, .int .i64 a1_1]] rfl (by (try simp only [List.map_toArray, List.map_cons, List.map_nil]); first | done | rfl | (simp only [List.length_drop, List.length_take]; rfl)) ?_; (with_reducible refine (chart_Near.calls k _ _ l0_0 _ _ l0_1 a1_0 a1_1 t236 t237 _ ?side1 ?side2 ?side3 ?side4 A5.out).mono ?_); (case side1 => repeat (first | exact (Kd.C_below HR0_0.out HB.out) | (with_reducible refine Kd.C_alloc ?_ _) | (with_reducible refine Kd.C_drewN ?_ _) | (with_reducible refine Kd.C_drew ?_))); (case side2 => exact HC0_0.out); (case side3 => repeat (first | exact (Kd.C_below HR0_1.out HB.out) | (with_reducible refine Kd.C_alloc ?_ _) | (with_reducible refine Kd.C_drewN ?_ _) | (with_reducible refine Kd.C_drew ?_))); (case side4 => exact HC0_1.out); rintro e wx17291 ⟨rfl, hb⟩; refine ⟨_, rfl, ?_⟩; have n0_ := Aside0.mk (blk_below (g := gb233) (o := .cells #[.slice A0_0 l0_0.length c0_0, .slice A0_1 l0_1.length c0_1] 25 (0, 0)) (by (with_reducible repeat (first | refine blk_drewN ?_ _ | refine blk_drew ?_ | refine blk_alloc ?_ _)); exact BK233.out) hb); have n1_ := Aside0.mk (blk_below (g := gb234) (o := .cells #[.int .i64 a1_0, .int .i64 a1_1] 36 (0, 0)) (by (with_reducible repeat (first | refine blk_drewN ?_ _ | refine blk_drew ?_ | refine blk_alloc ?_ _)); exact BK234.out) hb); have n2_ := Aside0.mk (below_step (by repeat (first | (with_reducible first | exact HB.out | apply below_alloc | apply pw_below_drewN | apply below_drew1 | refine below_set ?_ GE233.out | refine below_set ?_ GE234.out) | exact HB.out)) hb); clear BK233; clear BK234; clear HB; have BK233 := n0_; have BK234 := n1_; have HB := n2_; clear n0_ n1_ n2_; (try clear hb); (try clear hb2); (try clear hk); (try clear hi)))
     go_ret
     exact ⟨by first | rfl | (simp [errW_none, errW_some] <;> rfl) | (simp [*, errW_none, errW_some] <;> rfl), by repeat (first | (with_reducible first | exact HB.out | apply below_alloc | apply pw_below_drewN | apply below_drew1 | refine below_set ?_ GE233.out | refine below_set ?_ GE234.out) | exact HB.out)⟩

/-- What is told of a value of struct type 36 that came in. -/
def good36 (x : S36) : Prop := ((Lit.int .i64 x.f0).wf = true) ∧ (Lit.int .i64 x.f1).wf = true
/-- What is told of a value of struct type 40 that came in. -/
def good40 (x : S40) : Prop := (x.f0.size ≤ 140737488351232) ∧ good36 x.f1
/-- What is told of a value of struct type 48 that came in. -/
def good48 (x : S48) : Prop := (x.f0.size ≤ 140737488351232) ∧ x.f1.length * 16 ≤ 140737488351232 ∧ ∀ y0 ∈ x.f1, y0.size ≤ 140737488351232
/-- What is told of a value of struct type 25 that came in. -/
def good25 (x : S25) : Prop := (x.f0.length * 32 ≤ 140737488351232 ∧ ∀ y0 ∈ x.f0, good40 y0) ∧ x.f1.length * 40 ≤ 140737488351232 ∧ ∀ y0 ∈ x.f1, good48 y0
/-- THE ONE PURE STATEMENT of skywaykeep1_ChartNear. -/
def skywaykeep1_ChartNear.Pure : Prop := ∀ (l0_0 : List (S40)) (l0_1 : List (S48)) (a1_0 : Int) (a1_1 : Int), (l0_0.length * 32 ≤ 140737488351232 ∧ ∀ y0 ∈ l0_0, good40 y0) → (l0_1.length * 40 ≤ 140737488351232 ∧ ∀ y0 ∈ l0_1, good48 y0) → ((Lit.int .i64 a1_0).wf = true) → ((Lit.int .i64 a1_1).wf = true) → ∃ k, skywaykeep1_ChartNear.f k l0_0 l0_1 a1_0 a1_1 = some true

end Go.Proofs.Ytbpbpojnfhhbjaa.PChartNear
