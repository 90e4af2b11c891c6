/- Made by a program of this session (wip/tools/myprint.py, over the kit's printer): that the Go functions answer as the Lean functions printed beside them. -/
import Derived.Test.YtbpbpojnfhhbjaaTSq
import Derived.Test.YtbpbpojnfhhbjaaPRouteLengthx0
import Derived.Test.YtbpbpojnfhhbjaaPRouteLengthx2
import Derived.Test.YtbpbpojnfhhbjaaPRouteLengthx4
import Derived.Test.YtbpbpojnfhhbjaaPRouteLengthx6
namespace Go.Proofs.Ytbpbpojnfhhbjaa.PRouteLength
open Go.RowKit Go.Proofs.YtbpbpojnfhhbjaaW.PrintWords Go.Proofs.YtbpbpojnfhhbjaaW.PrintLast Go.Proofs.YtbpbpojnfhhbjaaW.PrintMore
attribute [local go_sem] max2_int min2_int max_two min_two max_three min_three max_four min_four   -- for this text's walks alone
set_option linter.unusedVariables false
set_option linter.unusedSimpArgs false

/-! ### chart_Between: function 16 -/
def chart_Between.j0 : Nat → List ByteArray → Int → Int → Bool → Option (List ByteArray × Int)
  | 0, _, _, _, _ => none
  | k + 1, x12, x13, x14, x39 => if x39 = true then (some (([] : List ByteArray), 6)) else (if x13 ≤ x14 then (if 0 ≤ x13 then (if x13 ≤ (wrap64 (x14 + 1)) then (if (wrap64 (x14 + 1)) ≤ (x12.length : Int) then ((slices_Clone_string_string.f ((x12.take ((wrap64 (x14 + 1)) : Int).toNat).drop (x13 : Int).toNat)).bind fun t185 => (some (t185, 0))) else (none)) else (none)) else (none)) else (if 0 ≤ x14 then (if x14 ≤ (wrap64 (x13 + 1)) then (if (wrap64 (x13 + 1)) ≤ (x12.length : Int) then ((slices_Clone_string_string.f ((x12.take ((wrap64 (x13 + 1)) : Int).toNat).drop (x14 : Int).toNat)).bind fun t189 => ((slices_Reverse_string_string.f k t189).bind fun t192 => (some (t192, 0)))) else (none)) else (none)) else (none)))
def chart_Between.f (k : Nat) (l0_0 : List (S40)) (l0_1 : List (S48)) (a1 : ByteArray) (a2 : ByteArray) (a3 : ByteArray) : Option (List ByteArray × Int) := (chart_Check.f k l0_0 l0_1).bind fun t179 => (if t179 = 0 then ((api_Airway_50.f l0_1 (chart_Between_1.p a1)).bind fun t180 => (if t180 < 0 then (some (([] : List ByteArray), 6)) else (if 0 ≤ t180 then (if t180 < (l0_1.length : Int) then ((slices_Index_string_string.f k ((rd_T48 l0_1 t180).f1) a2).bind fun t182 => ((slices_Index_string_string.f k ((rd_T48 l0_1 t180).f1) a3).bind fun t183 => (if t182 < 0 then (chart_Between.j0 k ((rd_T48 l0_1 t180).f1) t182 t183 true) else (chart_Between.j0 k ((rd_T48 l0_1 t180).f1) t182 t183 (decide (t183 < 0)))))) else (none)) else (none)))) else (some (([] : List ByteArray), t179)))
theorem chart_Between.mono_l : ∀ k, (∀ y0 y1 y2 y3, LeO (chart_Between.j0 k y0 y1 y2 y3) (chart_Between.j0 (k + 1) y0 y1 y2 y3))
  | 0 => fun _ _ _ _ r h => by simp [chart_Between.j0] at h
  | k + 1 => by
    have ih0 := chart_Between.mono_l k
    · intro y0 y1 y2 y3
      unfold chart_Between.j0
      repeat' first
      | (with_reducible exact ih0 _ _ _ _)
      | (with_reducible exact chart_Check.mono _ _ _)
      | (with_reducible exact slices_Index_string_string.mono _ _ _)
      | (with_reducible exact slices_Reverse_string_string.mono _ _)
      | (with_reducible exact LeO.refl _)
      | (with_reducible exact LeO.none _)
      | (with_reducible refine LeO.ite ?_ ?_)
      | (with_reducible refine LeO.bind ?_ (fun _ => ?_))
      | exact ih0 _ _ _ _
      | exact chart_Check.mono _ _ _
      | exact slices_Index_string_string.mono _ _ _
      | exact slices_Reverse_string_string.mono _ _
      | exact LeO.none _
      | refine LeO.ite ?_ ?_
      | refine LeO.bind ?_ (fun _ => ?_)
theorem chart_Between.mono : ∀ a0 a1 a2 a3 a4 k, LeO (chart_Between.f k a0 a1 a2 a3 a4) (chart_Between.f (k + 1) a0 a1 a2 a3 a4) := by
  intro a0 a1 a2 a3 a4 k
  have ih0 := chart_Between.mono_l k
  unfold chart_Between.f
  repeat' first
      | (with_reducible exact ih0 _ _ _ _)
      | (with_reducible exact chart_Check.mono _ _ _)
      | (with_reducible exact slices_Index_string_string.mono _ _ _)
      | (with_reducible exact slices_Reverse_string_string.mono _ _)
      | (with_reducible exact LeO.refl _)
      | (with_reducible exact LeO.none _)
      | (with_reducible refine LeO.ite ?_ ?_)
      | (with_reducible refine LeO.bind ?_ (fun _ => ?_))
      | exact ih0 _ _ _ _
      | exact chart_Check.mono _ _ _
      | exact slices_Index_string_string.mono _ _ _
      | exact slices_Reverse_string_string.mono _ _
      | exact LeO.none _
      | refine LeO.ite ?_ ?_
      | refine LeO.bind ?_ (fun _ => ?_)
set_option maxHeartbeats 8000000 in
set_option maxRecDepth 100000 in
theorem chart_Between.calls (k : Nat) (A0_0 : Option Addr) (c0_0 : Nat) (l0_0 : List (S40)) (A0_1 : Option Addr) (c0_1 : Nat) (l0_1 : List (S48)) (a1 : ByteArray) (a2 : ByteArray) (a3 : ByteArray) (r1 : List ByteArray) (r2 : Int) (w : World) (hr0_0 : Kd.C k40 w A0_0 l0_0.length l0_0) (hc0_0 : l0_0.length ≤ c0_0) (hr0_1 : Kd.C k48 w A0_1 l0_1.length l0_1) (hc0_1 : l0_1.length ≤ c0_1) (h : chart_Between.f k l0_0 l0_1 a1 a2 a3 = some (r1, r2)) :
    Calls Try.prog 16 #[.agg #[.slice A0_0 l0_0.length c0_0, .slice A0_1 l0_1.length c0_1], .string a1, .string a2, .string a3] w fun e w' => ∃ v0_ : Value, e = .returned (.tuple #[v0_, .int .i64 r2]) ∧ Kd.R Kd.string 9 w' w.heap.size (fun _ => True) v0_ r1 ∧ Below w.heap.size w w' := by
 have hu25 := Try.underlying25
 have HR0_0 := Aside0.mk hr0_0
 have HC0_0 := Aside0.mk hc0_0
 clear hr0_0 hc0_0
 have HR0_1 := Aside0.mk hr0_1
 have HC0_1 := Aside0.mk hc0_1
 clear hr0_1 hc0_1
 have HB := Aside0.mk (Below.refl w.heap.size w)
 have H : ((chart_Check.f k l0_0 l0_1).bind fun t179 => (if t179 = 0 then ((api_Airway_50.f l0_1 (chart_Between_1.p a1)).bind fun t180 => (if t180 < 0 then (some (([] : List ByteArray), 6)) else (if 0 ≤ t180 then (if t180 < (l0_1.length : Int) then ((slices_Index_string_string.f k ((rd_T48 l0_1 t180).f1) a2).bind fun t182 => ((slices_Index_string_string.f k ((rd_T48 l0_1 t180).f1) a3).bind fun t183 => (if t182 < 0 then (chart_Between.j0 k ((rd_T48 l0_1 t180).f1) t182 t183 true) else (chart_Between.j0 k ((rd_T48 l0_1 t180).f1) t182 t183 (decide (t183 < 0)))))) else (none)) else (none)))) else (some (([] : List ByteArray), t179)))) = some (r1, r2) := h
 clear h
 replace H := Option.bind_eq_some_iff.mp H
 obtain ⟨t179, A50, H⟩ := H
 replace H : (if t179 = 0 then ((api_Airway_50.f l0_1 (chart_Between_1.p a1)).bind fun t180 => (if t180 < 0 then (some (([] : List ByteArray), 6)) else (if 0 ≤ t180 then (if t180 < (l0_1.length : Int) then ((slices_Index_string_string.f k ((rd_T48 l0_1 t180).f1) a2).bind fun t182 => ((slices_Index_string_string.f k ((rd_T48 l0_1 t180).f1) a3).bind fun t183 => (if t182 < 0 then (chart_Between.j0 k ((rd_T48 l0_1 t180).f1) t182 t183 true) else (chart_Between.j0 k ((rd_T48 l0_1 t180).f1) t182 t183 (decide (t183 < 0)))))) else (none)) else (none)))) else (some (([] : List ByteArray), t179))) = some (r1, r2) := H
 have A5 := Aside0.mk A50
 clear A50
 refine Or.elim (Classical.em (t179 = 0)) (fun c6 => ?p2_) (fun c6 => ?n2_)
 case' p2_ =>
  rw [if_pos c6] at H
  have c6b0 : (t179 == 0) = true := beq_iff_eq.mpr c6
  have c6b1 : (t179 != 0) = false := bne_eq_false_iff_eq.mpr c6
  clear c6
  replace H := Option.bind_eq_some_iff.mp H
  obtain ⟨t180, A70, H⟩ := H
  replace H : (if t180 < 0 then (some (([] : List ByteArray), 6)) else (if 0 ≤ t180 then (if t180 < (l0_1.length : Int) then ((slices_Index_string_string.f k ((rd_T48 l0_1 t180).f1) a2).bind fun t182 => ((slices_Index_string_string.f k ((rd_T48 l0_1 t180).f1) a3).bind fun t183 => (if t182 < 0 then (chart_Between.j0 k ((rd_T48 l0_1 t180).f1) t182 t183 true) else (chart_Between.j0 k ((rd_T48 l0_1 t180).f1) t182 t183 (decide (t183 < 0)))))) else (none)) else (none))) = some (r1, r2) := H
  have A7 := Aside0.mk A70
  clear A70
  refine Or.elim (Classical.em (t180 < 0)) (fun c8 => ?p3_) (fun c8 => ?n3_)
  case' p3_ =>
   rw [if_pos c8] at H
   have c8b0 : decide (t180 < 0) = true := decide_eq_true c8
   clear c8
   simp only [Option.some.injEq, Prod.mk.injEq] at H
   obtain ⟨rfl, rfl⟩ := H
   have hm1_0 := Aside0.mk trivial
  case' n3_ =>
   rw [if_neg c8] at H
   have c8b0 : decide (t180 < 0) = false := decide_eq_false c8
   clear c8
   refine Or.elim (Classical.em (0 ≤ t180)) (fun c16 => ?p4_) (fun c16 => ?n4_)
   case' p4_ =>
    rw [if_pos c16] at H
    have c16b0 : decide (0 ≤ t180) = true := decide_eq_true c16
    clear c16
    refine Or.elim (Classical.em (t180 < (l0_1.length : Int))) (fun c17 => ?p5_) (fun c17 => ?n5_)
    case' p5_ =>
     rw [if_pos c17] at H
     have c17b0 : decide (t180 < (l0_1.length : Int)) = true := decide_eq_true c17
     clear c17
     replace H := Option.bind_eq_some_iff.mp H
     obtain ⟨t182, A180, H⟩ := H
     replace H : ((slices_Index_string_string.f k ((rd_T48 l0_1 t180).f1) a3).bind fun t183 => (if t182 < 0 then (chart_Between.j0 k ((rd_T48 l0_1 t180).f1) t182 t183 true) else (chart_Between.j0 k ((rd_T48 l0_1 t180).f1) t182 t183 (decide (t183 < 0))))) = some (r1, r2) := H
     have A18 := Aside0.mk A180
     clear A180
     replace H := Option.bind_eq_some_iff.mp H
     obtain ⟨t183, A190, H⟩ := H
     replace H : (if t182 < 0 then (chart_Between.j0 k ((rd_T48 l0_1 t180).f1) t182 t183 true) else (chart_Between.j0 k ((rd_T48 l0_1 t180).f1) t182 t183 (decide (t183 < 0)))) = some (r1, r2) := H
     have A19 := Aside0.mk A190
     clear A190
     have HC20 := Aside0.mk H
     clear H
     have hm1_1 := Aside0.mk trivial
    case' n5_ =>
     rw [if_neg c17] at H
     exact absurd H (by simp)
   case' n4_ =>
    rw [if_neg c16] at H
    exact absurd H (by simp)
 case' n2_ =>
  rw [if_neg c6] at H
  have c6b0 : (t179 == 0) = false := beq_eq_false_iff_ne.mpr c6
  have c6b1 : (t179 != 0) = true := bne_iff_ne.mpr c6
  simp only [Option.some.injEq, Prod.mk.injEq] at H
  obtain ⟨rfl, rfl⟩ := H
  have hm1_0 := Aside0.mk trivial
 all_goals
  go_enter Try.func16, Try.ntmps16
  first
   | clear hm1_0
     go_wp2_with (first | ((with_reducible refine gate_dst (N := 4) rfl ?_); refine box_event ?hg (N := 4) ?hd (cs := #[.slice A0_0 l0_0.length c0_0, .slice A0_1 l0_1.length c0_1]) (t := 25) ?hr ?_; (case hd => rfl); (case hg => rfl); (case hr => first | (go_simp; done) | (go_simp; rfl)); intro gb177 hg wx53f41 hbox hb; have n0_ := Aside0.mk (below_step bel_s hb); have n1_ := Aside0.mk (hbox); have n2_ := Aside0.mk ((by rw [hg]; exact (below_size bel_s) : w.heap.size ≤ gb177)); have n3_ := Aside0.mk ((by rw [hg]; exact (below_size bel_s) : w.heap.size ≤ gb177)); clear HB; have HB := n0_; have BK177 := n1_; have GW177 := n2_; have GE177 := n3_; clear n0_ n1_ n2_ n3_; clear hb hbox hg) | ((with_reducible refine gate_dst (N := 5) rfl ?_); refine box_event ?hg (N := 5) ?hd (cs := #[.string a1]) (t := 9) ?hr ?_; (case hd => rfl); (case hg => rfl); (case hr => first | (go_simp; done) | (go_simp; rfl)); intro gb178 hg wxf60c1 hbox hb; have n0_ := Aside0.mk (blk_below (g := gb177) (o := .cells #[.slice A0_0 l0_0.length c0_0, .slice A0_1 l0_1.length c0_1] 25 (0, 0)) blk_s hb); have n1_ := Aside0.mk (below_step bel_s hb); have n2_ := Aside0.mk (hbox); have n3_ := Aside0.mk ((by rw [hg]; exact (below_size bel_s) : w.heap.size ≤ gb178)); have n4_ := Aside0.mk ((by rw [hg]; exact (below_size bel_s) : w.heap.size ≤ gb178)); have n5_ := Aside0.mk ((by rw [hg]; exact Nat.ne_of_lt (blk_lt (g := gb177) (o := .cells #[.slice A0_0 l0_0.length c0_0, .slice A0_1 l0_1.length c0_1] 25 (0, 0)) blk_s) : gb177 ≠ gb178)); have n6_ := Aside0.mk ((by rw [hg]; exact Nat.ne_of_gt (blk_lt (g := gb177) (o := .cells #[.slice A0_0 l0_0.length c0_0, .slice A0_1 l0_1.length c0_1] 25 (0, 0)) blk_s) : gb178 ≠ gb177)); clear BK177; clear HB; have BK177 := n0_; have HB := n1_; have BK178 := n2_; have GW178 := n3_; have GE178 := n4_; have NB177_178 := n5_; have NB178_177 := n6_; clear n0_ n1_ n2_ n3_ n4_ n5_ n6_; clear hb hbox hg; have hnbxf60c1 := NB177_178.out; have hncxf60c1 := NB178_177.out; have hczxf60c1 : wxf60c1.cell? ⟨gb177, 0, none⟩ = some (.slice A0_0 l0_0.length c0_0) := (blk_cell BK177.out 0).trans rfl; have hczxf60c2 : wxf60c1.cell? ⟨gb177, 1, none⟩ = some (.slice A0_1 l0_1.length c0_1) := (blk_cell BK177.out 1).trans rfl; have hfzxf60c1 := blk_frozen BK177.out 0; have hfzxf60c2 := blk_frozen BK177.out 1) | ((with_reducible refine gate_callee (f := 49) rfl ?_); refine goesL_ (some 17) rfl rfl Try.func49 (by kernel_rfl) rfl #[.agg #[.slice A0_0 l0_0.length c0_0, .slice A0_1 l0_1.length c0_1]] rfl any_s ?_; (with_reducible refine (chart_Check.calls k _ _ l0_0 _ _ l0_1 t179 _ ?side1 ?side2 ?side3 ?side4 A5.out).mono ?_); (case side1 => repeat (first | exact (Kd.C_below HR0_0.out HB.out) | (with_reducible refine Kd.C_alloc ?_ _) | (with_reducible refine Kd.C_drewN ?_ _) | (with_reducible refine Kd.C_drew ?_))); (case side2 => exact HC0_0.out); (case side3 => repeat (first | exact (Kd.C_below HR0_1.out HB.out) | (with_reducible refine Kd.C_alloc ?_ _) | (with_reducible refine Kd.C_drewN ?_ _) | (with_reducible refine Kd.C_drew ?_))); (case side4 => exact HC0_1.out); rintro e wxfa671 ⟨rfl, hb⟩; refine ⟨_, rfl, ?_⟩; have n0_ := Aside0.mk (blk_below (g := gb177) (o := .cells #[.slice A0_0 l0_0.length c0_0, .slice A0_1 l0_1.length c0_1] 25 (0, 0)) blk_s hb); have n1_ := Aside0.mk (blk_below (g := gb178) (o := .cells #[.string a1] 9 (0, 0)) blk_s hb); have n2_ := Aside0.mk (below_step bel_s hb); clear BK177; clear BK178; clear HB; have BK177 := n0_; have BK178 := n1_; have HB := n2_; clear n0_ n1_ n2_; (try clear hb); (try clear hb2); (try clear hk); (try clear hi); have hczxfa671 : wxfa671.cell? ⟨gb177, 0, none⟩ = some (.slice A0_0 l0_0.length c0_0) := (blk_cell BK177.out 0).trans rfl; have hczxfa672 : wxfa671.cell? ⟨gb177, 1, none⟩ = some (.slice A0_1 l0_1.length c0_1) := (blk_cell BK177.out 1).trans rfl; have hfzxfa671 := blk_frozen BK177.out 0; have hfzxfa672 := blk_frozen BK177.out 1) | ((with_reducible refine gate_callee (f := 49) rfl ?_); refine goesL_ (some 17) rfl rfl Try.func49 (by kernel_rfl) rfl #[.agg #[.slice A0_0 l0_0.length c0_0, .slice A0_1 l0_1.length c0_1]] rfl any_s ?_; (with_reducible refine (chart_Check.calls k _ _ l0_0 _ _ l0_1 t179 _ ?side1 ?side2 ?side3 ?side4 A5.out).mono ?_); (case side1 => repeat (first | exact (Kd.C_below HR0_0.out HB.out) | (with_reducible refine Kd.C_alloc ?_ _) | (with_reducible refine Kd.C_drewN ?_ _) | (with_reducible refine Kd.C_drew ?_))); (case side2 => exact HC0_0.out); (case side3 => repeat (first | exact (Kd.C_below HR0_1.out HB.out) | (with_reducible refine Kd.C_alloc ?_ _) | (with_reducible refine Kd.C_drewN ?_ _) | (with_reducible refine Kd.C_drew ?_))); (case side4 => exact HC0_1.out); rintro e wx60651 ⟨rfl, hb⟩; refine ⟨_, rfl, ?_⟩; have n0_ := Aside0.mk (blk_below (g := gb177) (o := .cells #[.slice A0_0 l0_0.length c0_0, .slice A0_1 l0_1.length c0_1] 25 (0, 0)) blk_s hb); have n1_ := Aside0.mk (blk_below (g := gb178) (o := .cells #[.string a1] 9 (0, 0)) blk_s hb); have n2_ := Aside0.mk (below_step bel_s hb); clear BK177; clear BK178; clear HB; have BK177 := n0_; have BK178 := n1_; have HB := n2_; clear n0_ n1_ n2_; (try clear hb); (try clear hb2); (try clear hk); (try clear hi)) | ((with_reducible refine gate_callee (f := 50) rfl ?_); refine goesL_ (some 24) rfl rfl Try.func50 (by kernel_rfl) rfl #[.slice A0_1 l0_1.length c0_1, .func (.func 51) #[] #[.pointer (some ⟨gb178, 0, none⟩)]] rfl any_s ?_; (with_reducible refine (api_Airway_50.calls _ _ l0_1 (chart_Between_1.p a1) t180 _ ?side1 ?side2 ?side3 A7.out).mono ?_); (case side1 => repeat (first | exact (Kd.C_below HR0_1.out HB.out) | (with_reducible refine Kd.C_alloc ?_ _) | (with_reducible refine Kd.C_drewN ?_ _) | (with_reducible refine Kd.C_drew ?_))); (case side2 => exact HC0_1.out); (case side3 => exact chart_Between_1.pred blk_s); rintro e wx46681 ⟨rfl, hb⟩; refine ⟨_, rfl, ?_⟩; have n0_ := Aside0.mk (blk_below (g := gb177) (o := .cells #[.slice A0_0 l0_0.length c0_0, .slice A0_1 l0_1.length c0_1] 25 (0, 0)) blk_s hb); have n1_ := Aside0.mk (blk_below (g := gb178) (o := .cells #[.string a1] 9 (0, 0)) blk_s hb); have n2_ := Aside0.mk (below_step bel_s hb); clear BK177; clear BK178; clear HB; have BK177 := n0_; have BK178 := n1_; have HB := n2_; clear n0_ n1_ n2_; (try clear hb); (try clear hb2); (try clear hk); (try clear hi)))
     go_ret2
     exact ⟨_, by first | rfl | (simp [errW_none, errW_some] <;> rfl) | (simp [*, errW_none, errW_some] <;> rfl), by first | exact Kd.R_nil _ _ _ _ _ | exact Kd.N_nil _ _ _ _ _ | exact Kd.V_nil _ _ _ _ _ | exact Kd.Q_nil _ _ _ _ _ | exact Kd.S_nil _ _ _ _ _, by repeat (first | (with_reducible first | exact HB.out | apply below_alloc | apply pw_below_drewN | apply below_drew1 | refine below_set ?_ GE177.out | refine below_set ?_ GE178.out) | exact HB.out)⟩
   | clear hm1_1
     go_upto_region 9 with (first | ((with_reducible refine gate_dst (N := 4) rfl ?_); refine box_event ?hg (N := 4) ?hd (cs := #[.slice A0_0 l0_0.length c0_0, .slice A0_1 l0_1.length c0_1]) (t := 25) ?hr ?_; (case hd => rfl); (case hg => rfl); (case hr => first | (go_simp; done) | (go_simp; rfl)); intro gb177 hg wx53f41 hbox hb; have n0_ := Aside0.mk (below_step bel_s hb); have n1_ := Aside0.mk (hbox); have n2_ := Aside0.mk ((by rw [hg]; exact (below_size bel_s) : w.heap.size ≤ gb177)); have n3_ := Aside0.mk ((by rw [hg]; exact (below_size bel_s) : w.heap.size ≤ gb177)); clear HB; have HB := n0_; have BK177 := n1_; have GW177 := n2_; have GE177 := n3_; clear n0_ n1_ n2_ n3_; clear hb hbox hg) | ((with_reducible refine gate_dst (N := 5) rfl ?_); refine box_event ?hg (N := 5) ?hd (cs := #[.string a1]) (t := 9) ?hr ?_; (case hd => rfl); (case hg => rfl); (case hr => first | (go_simp; done) | (go_simp; rfl)); intro gb178 hg wxf60c1 hbox hb; have n0_ := Aside0.mk (blk_below (g := gb177) (o := .cells #[.slice A0_0 l0_0.length c0_0, .slice A0_1 l0_1.length c0_1] 25 (0, 0)) blk_s hb); have n1_ := Aside0.mk (below_step bel_s hb); have n2_ := Aside0.mk (hbox); have n3_ := Aside0.mk ((by rw [hg]; exact (below_size bel_s) : w.heap.size ≤ gb178)); have n4_ := Aside0.mk ((by rw [hg]; exact (below_size bel_s) : w.heap.size ≤ gb178)); have n5_ := Aside0.mk ((by rw [hg]; exact Nat.ne_of_lt (blk_lt (g := gb177) (o := .cells #[.slice A0_0 l0_0.length c0_0, .slice A0_1 l0_1.length c0_1] 25 (0, 0)) blk_s) : gb177 ≠ gb178)); have n6_ := Aside0.mk ((by rw [hg]; exact Nat.ne_of_gt (blk_lt (g := gb177) (o := .cells #[.slice A0_0 l0_0.length c0_0, .slice A0_1 l0_1.length c0_1] 25 (0, 0)) blk_s) : gb178 ≠ gb177)); clear BK177; clear HB; have BK177 := n0_; have HB := n1_; have BK178 := n2_; have GW178 := n3_; have GE178 := n4_; have NB177_178 := n5_; have NB178_177 := n6_; clear n0_ n1_ n2_ n3_ n4_ n5_ n6_; clear hb hbox hg; have hnbxf60c1 := NB177_178.out; have hncxf60c1 := NB178_177.out; have hczxf60c1 : wxf60c1.cell? ⟨gb177, 0, none⟩ = some (.slice A0_0 l0_0.length c0_0) := (blk_cell BK177.out 0).trans rfl; have hczxf60c2 : wxf60c1.cell? ⟨gb177, 1, none⟩ = some (.slice A0_1 l0_1.length c0_1) := (blk_cell BK177.out 1).trans rfl; have hfzxf60c1 := blk_frozen BK177.out 0; have hfzxf60c2 := blk_frozen BK177.out 1) | ((with_reducible refine gate_callee (f := 49) rfl ?_); refine goesL_ (some 17) rfl rfl Try.func49 (by kernel_rfl) rfl #[.agg #[.slice A0_0 l0_0.length c0_0, .slice A0_1 l0_1.length c0_1]] rfl any_s ?_; (with_reducible refine (chart_Check.calls k _ _ l0_0 _ _ l0_1 t179 _ ?side1 ?side2 ?side3 ?side4 A5.out).mono ?_); (case side1 => repeat (first | exact (Kd.C_below HR0_0.out HB.out) | (with_reducible refine Kd.C_alloc ?_ _) | (with_reducible refine Kd.C_drewN ?_ _) | (with_reducible refine Kd.C_drew ?_))); (case side2 => exact HC0_0.out); (case side3 => repeat (first | exact (Kd.C_below HR0_1.out HB.out) | (with_reducible refine Kd.C_alloc ?_ _) | (with_reducible refine Kd.C_drewN ?_ _) | (with_reducible refine Kd.C_drew ?_))); (case side4 => exact HC0_1.out); rintro e wxfa671 ⟨rfl, hb⟩; refine ⟨_, rfl, ?_⟩; have n0_ := Aside0.mk (blk_below (g := gb177) (o := .cells #[.slice A0_0 l0_0.length c0_0, .slice A0_1 l0_1.length c0_1] 25 (0, 0)) blk_s hb); have n1_ := Aside0.mk (blk_below (g := gb178) (o := .cells #[.string a1] 9 (0, 0)) blk_s hb); have n2_ := Aside0.mk (below_step bel_s hb); clear BK177; clear BK178; clear HB; have BK177 := n0_; have BK178 := n1_; have HB := n2_; clear n0_ n1_ n2_; (try clear hb); (try clear hb2); (try clear hk); (try clear hi); have hczxfa671 : wxfa671.cell? ⟨gb177, 0, none⟩ = some (.slice A0_0 l0_0.length c0_0) := (blk_cell BK177.out 0).trans rfl; have hczxfa672 : wxfa671.cell? ⟨gb177, 1, none⟩ = some (.slice A0_1 l0_1.length c0_1) := (blk_cell BK177.out 1).trans rfl; have hfzxfa671 := blk_frozen BK177.out 0; have hfzxfa672 := blk_frozen BK177.out 1) | ((with_reducible refine gate_callee (f := 50) rfl ?_); refine goesL_ (some 24) rfl rfl Try.func50 (by kernel_rfl) rfl #[.slice A0_1 l0_1.length c0_1, .func (.func 51) #[] #[.pointer (some ⟨gb178, 0, none⟩)]] rfl any_s ?_; (with_reducible refine (api_Airway_50.calls _ _ l0_1 (chart_Between_1.p a1) t180 _ ?side1 ?side2 ?side3 A7.out).mono ?_); (case side1 => repeat (first | exact (Kd.C_below HR0_1.out HB.out) | (with_reducible refine Kd.C_alloc ?_ _) | (with_reducible refine Kd.C_drewN ?_ _) | (with_reducible refine Kd.C_drew ?_))); (case side2 => exact HC0_1.out); (case side3 => exact chart_Between_1.pred blk_s); rintro e wxb0841 ⟨rfl, hb⟩; refine ⟨_, rfl, ?_⟩; have n0_ := Aside0.mk (blk_below (g := gb177) (o := .cells #[.slice A0_0 l0_0.length c0_0, .slice A0_1 l0_1.length c0_1] 25 (0, 0)) blk_s hb); have n1_ := Aside0.mk (blk_below (g := gb178) (o := .cells #[.string a1] 9 (0, 0)) blk_s hb); have n2_ := Aside0.mk (below_step bel_s hb); clear BK177; clear BK178; clear HB; have BK177 := n0_; have BK178 := n1_; have HB := n2_; clear n0_ n1_ n2_; (try clear hb); (try clear hb2); (try clear hk); (try clear hi); have hczxb0841 : wxb0841.cell? ⟨gb177, 0, none⟩ = some (.slice A0_0 l0_0.length c0_0) := (blk_cell BK177.out 0).trans rfl; have hczxb0842 : wxb0841.cell? ⟨gb177, 1, none⟩ = some (.slice A0_1 l0_1.length c0_1) := (blk_cell BK177.out 1).trans rfl; have hfzxb0841 := blk_frozen BK177.out 0; have hfzxb0842 := blk_frozen BK177.out 1; have p181 : 0 ≤ (t180 : Int) := of_decide_eq_true (by first | (with_reducible assumption) | assumption); have q181 : t180 < (l0_1.length : Int) := of_decide_eq_true (by first | (with_reducible assumption) | assumption); obtain ⟨ad181, A181_1, c181_1, e181, hx181_0, hx181_1, hl181_1, hi181_1⟩ := at_T48 HR0_1.out t180 p181 q181; cases e181; replace hx181_0 := (HB.out.cell (World.block_lt_of_cell? w _ hx181_0)).trans hx181_0; replace hx181_1 := (HB.out.cell (World.block_lt_of_cell? w _ hx181_1)).trans hx181_1; have HR181_1 := Aside0.mk hi181_1; have HC181_1 := Aside0.mk hl181_1; clear hi181_1 hl181_1; replace p181 := eq_true p181; replace q181 := eq_true q181) | ((with_reducible refine gate_callee (f := 52) rfl ?_); refine goesL_ (some 35) rfl rfl Try.func52 (by kernel_rfl) rfl #[.slice A181_1 ((rd_T48 l0_1 t180).f1).length c181_1, .string a2] rfl any_s ?_; (with_reducible refine (slices_Index_string_string.calls k _ _ ((rd_T48 l0_1 t180).f1) a2 t182 _ ?side1 ?side2 A18.out).mono ?_); (case side1 => repeat (first | exact (Kd.C_below HR181_1.out HB.out) | (with_reducible refine Kd.C_alloc ?_ _) | (with_reducible refine Kd.C_drewN ?_ _) | (with_reducible refine Kd.C_drew ?_))); (case side2 => exact HC181_1.out); rintro e wx439a1 ⟨rfl, hb⟩; refine ⟨_, rfl, ?_⟩; have n0_ := Aside0.mk (blk_below (g := gb177) (o := .cells #[.slice A0_0 l0_0.length c0_0, .slice (some ad181) l0_1.length c0_1] 25 (0, 0)) blk_s hb); have n1_ := Aside0.mk (blk_below (g := gb178) (o := .cells #[.string a1] 9 (0, 0)) blk_s hb); have n2_ := Aside0.mk (below_step bel_s hb); clear BK177; clear BK178; clear HB; have BK177 := n0_; have BK178 := n1_; have HB := n2_; clear n0_ n1_ n2_; (try clear hb); (try clear hb2); (try clear hk); (try clear hi)) | ((with_reducible refine gate_callee (f := 52) rfl ?_); refine goesL_ (some 38) rfl rfl Try.func52 (by kernel_rfl) rfl #[.slice A181_1 ((rd_T48 l0_1 t180).f1).length c181_1, .string a3] rfl any_s ?_; (with_reducible refine (slices_Index_string_string.calls k _ _ ((rd_T48 l0_1 t180).f1) a3 t183 _ ?side1 ?side2 A19.out).mono ?_); (case side1 => repeat (first | exact (Kd.C_below HR181_1.out HB.out) | (with_reducible refine Kd.C_alloc ?_ _) | (with_reducible refine Kd.C_drewN ?_ _) | (with_reducible refine Kd.C_drew ?_))); (case side2 => exact HC181_1.out); rintro e wxb9041 ⟨rfl, hb⟩; refine ⟨_, rfl, ?_⟩; have n0_ := Aside0.mk (blk_below (g := gb177) (o := .cells #[.slice A0_0 l0_0.length c0_0, .slice (some ad181) l0_1.length c0_1] 25 (0, 0)) blk_s hb); have n1_ := Aside0.mk (blk_below (g := gb178) (o := .cells #[.string a1] 9 (0, 0)) blk_s hb); have n2_ := Aside0.mk (below_step bel_s hb); clear BK177; clear BK178; clear HB; have BK177 := n0_; have BK178 := n1_; have HB := n2_; clear n0_ n1_ n2_; (try clear hb); (try clear hb2); (try clear hk); (try clear hi)))
     (try simp only [Act.put, List.setIfInBounds_toArray, List.set_cons_zero, List.set_cons_succ])
     go_cut [39] (fun v39 wc => ∃ (kq : Nat) (x39_19 : Bool), v39 = .bool x39_19 ∧ Aside0 (chart_Between.j0 kq ((rd_T48 l0_1 t180).f1) t182 t183 x39_19 = some (r1, r2)) ∧ Aside0 (kq ≤ k) ∧ Aside0 (wc.heap[gb177]? = some (.cells #[(.slice A0_0 l0_0.length c0_0), (.slice (some ad181) l0_1.length c0_1)] 25 (0, 0))) ∧ Aside0 (wc.heap[gb178]? = some (.cells #[.string a1] 9 (0, 0))) ∧ Aside0 (Below w.heap.size w wc))
     case first =>
      have H := HC20.out
      clear HC20
      refine Or.elim (Classical.em (t182 < 0)) (fun c31 => ?p7_) (fun c31 => ?n7_)
      case' p7_ =>
       rw [if_pos c31] at H
       have c31b0 : decide (t182 < 0) = true := decide_eq_true c31
       clear c31
       (first | rw [c31b0] | (simp only [i64_w, i32_w]; rw [c31b0]) | skip)
      case' n7_ =>
       rw [if_neg c31] at H
       have c31b0 : decide (t182 < 0) = false := decide_eq_false c31
       clear c31
       (first | rw [c31b0] | (simp only [i64_w, i32_w]; rw [c31b0]) | skip)
      all_goals
       have H' := Aside0.mk H
       clear H
       go_wp2
       go_meet
       case rel => first | (exact ⟨_, (true), (by first | rfl | (simp; done) | (simp [*]; done)), H', ⟨by first | omega | exact Nat.le_refl _⟩, ⟨by (with_reducible repeat (first | refine blk_drewN ?_ _ | refine blk_drew ?_ | refine blk_alloc ?_ _)); exact BK177.out⟩, ⟨by (with_reducible repeat (first | refine blk_drewN ?_ _ | refine blk_drew ?_ | refine blk_alloc ?_ _)); exact BK178.out⟩, ⟨by repeat (first | (with_reducible first | exact HB.out | apply below_alloc | apply pw_below_drewN | apply below_drew1 | refine below_set ?_ GE177.out | refine below_set ?_ GE178.out) | exact HB.out)⟩⟩) | (exact ⟨_, (decide (t183 < 0)), (by first | rfl | (simp; done) | (simp [*]; done)), H', ⟨by first | omega | exact Nat.le_refl _⟩, ⟨by (with_reducible repeat (first | refine blk_drewN ?_ _ | refine blk_drew ?_ | refine blk_alloc ?_ _)); exact BK177.out⟩, ⟨by (with_reducible repeat (first | refine blk_drewN ?_ _ | refine blk_drew ?_ | refine blk_alloc ?_ _)); exact BK178.out⟩, ⟨by repeat (first | (with_reducible first | exact HB.out | apply below_alloc | apply pw_below_drewN | apply below_drew1 | refine below_set ?_ GE177.out | refine below_set ?_ GE178.out) | exact HB.out)⟩⟩)
     case rest =>
      clear HC20
      (try clear c1); (try clear p1); (try clear q1); (try clear hx1); (try clear c2); (try clear p2); (try clear c3); (try clear c4); (try clear c5); (try clear c6); (try clear c6b0); (try clear c6b1); (try clear c8); (try clear c8b0); (try clear c11); (try clear c16); (try clear c16b0); (try clear c17); (try clear c17b0); (try clear c18); (try clear p18); (try clear q18); (try clear hx18); (try clear c23); (try clear c31); (try clear c31b0); (try clear hczza1); (try clear hczza2); (try clear hczza3); (try clear hczza4); (try clear hczxf60c1); (try clear hczxf60c2); (try clear hczxfa671); (try clear hczxfa672); (try clear hczxb0841); (try clear hczxb0842); (try clear hfzza1); (try clear hfzza2); (try clear hfzza3); (try clear hfzza4)
      (try clear hfzxf60c1); (try clear hfzxf60c2); (try clear hfzxfa671); (try clear hfzxfa672); (try clear hfzxb0841); (try clear hfzxb0842); (try clear hx181_0); (try clear hx181_1); (try clear p181); (try clear q181)
      obtain ⟨kq, x39_19, rfl, HA, HJ19, BK177, BK178, HB⟩ := hcut
      cases kq with
      | zero => exact absurd HA.out (by simp [chart_Between.j0])
      | succ kj19 =>
       have H := HA.out
       clear HA
       simp only [chart_Between.j0] at H
       refine Or.elim (Classical.em (x39_19 = true)) (fun c32 => ?p9_) (fun c32 => ?n9_)
       case' p9_ =>
        subst c32
        have H1 : (some (([] : List ByteArray), 6)) = some (r1, r2) := by rw [if_pos rfl] at H; exact H
        clear H
        have H := H1
        clear H1
        simp only [Option.some.injEq, Prod.mk.injEq] at H
        obtain ⟨rfl, rfl⟩ := H
        have hm8_0 := Aside0.mk trivial
       case' n9_ =>
        replace c32 := Bool.eq_false_iff.mpr c32
        subst c32
        have H1 : (if t182 ≤ t183 then (if 0 ≤ t182 then (if t182 ≤ (wrap64 (t183 + 1)) then (if (wrap64 (t183 + 1)) ≤ (((rd_T48 l0_1 t180).f1).length : Int) then ((slices_Clone_string_string.f ((((rd_T48 l0_1 t180).f1).take ((wrap64 (t183 + 1)) : Int).toNat).drop (t182 : Int).toNat)).bind fun t185 => (some (t185, 0))) else (none)) else (none)) else (none)) else (if 0 ≤ t183 then (if t183 ≤ (wrap64 (t182 + 1)) then (if (wrap64 (t182 + 1)) ≤ (((rd_T48 l0_1 t180).f1).length : Int) then ((slices_Clone_string_string.f ((((rd_T48 l0_1 t180).f1).take ((wrap64 (t182 + 1)) : Int).toNat).drop (t183 : Int).toNat)).bind fun t189 => ((slices_Reverse_string_string.f kj19 t189).bind fun t192 => (some (t192, 0)))) else (none)) else (none)) else (none))) = some (r1, r2) := by rw [if_neg (show ¬ (false = true) by decide)] at H; exact H
        clear H
        have H := H1
        clear H1
        refine Or.elim (Classical.em (t182 ≤ t183)) (fun c33 => ?p10_) (fun c33 => ?n10_)
        case' p10_ =>
         rw [if_pos c33] at H
         have c33b0 : decide (t182 ≤ t183) = true := decide_eq_true c33
         clear c33
         refine Or.elim (Classical.em (0 ≤ t182)) (fun c34 => ?p11_) (fun c34 => ?n11_)
         case' p11_ =>
          rw [if_pos c34] at H
          have c34b0 := eq_true c34
          have c34b1 : decide (0 ≤ t182) = true := decide_eq_true c34
          clear c34
          refine Or.elim (Classical.em (t182 ≤ (wrap64 (t183 + 1)))) (fun c35 => ?p12_) (fun c35 => ?n12_)
          case' p12_ =>
           rw [if_pos c35] at H
           have c35b0 := eq_true c35
           have c35b1 : decide (t182 ≤ (wrap64 (t183 + 1))) = true := decide_eq_true c35
           refine Or.elim (Classical.em ((wrap64 (t183 + 1)) ≤ (((rd_T48 l0_1 t180).f1).length : Int))) (fun c36 => ?p13_) (fun c36 => ?n13_)
           case' p13_ =>
            rw [if_pos c36] at H
            have c36b0 := eq_true c36
            have c36b1 : decide ((wrap64 (t183 + 1)) ≤ (((rd_T48 l0_1 t180).f1).length : Int)) = true := decide_eq_true c36
            replace H := Option.bind_eq_some_iff.mp H
            obtain ⟨t185, A370, H⟩ := H
            replace H : (some (t185, 0)) = some (r1, r2) := H
            have A37 := Aside0.mk A370
            clear A370
            simp only [Option.some.injEq, Prod.mk.injEq] at H
            obtain ⟨rfl, rfl⟩ := H
            obtain ⟨i038, hi038, _, hsz38, _⟩ := info_parts info9
            obtain ⟨A38, hcut38, hA38, hC38⟩ := print_mid_of (P := Try.prog) Value.string (⟨#[]⟩ : ByteArray) 27 9 .i64 .i64 Try.underlying27 hi038 hsz38 A181_1 c181_1 ((rd_T48 l0_1 t180).f1) t182 (wrap64 (t183 + 1)) (of_decide_eq_true (by first | (with_reducible assumption) | assumption)) (by first | omega | exact of_decide_eq_true (by first | (with_reducible assumption) | assumption)) (of_decide_eq_true (by first | (with_reducible assumption) | assumption)) HC181_1.out
            have HR184 := Aside0.mk (Kd.C_of_reads (h1 := fun _ => rfl) (hA38 _ (Kd.reads_of_C HR181_1.out)))
            have HC184 := Aside0.mk hC38
            clear hA38 hC38 hi038 hsz38
            have hm8_1 := Aside0.mk trivial
           case' n13_ =>
            rw [if_neg c36] at H
            exact absurd H (by simp)
          case' n12_ =>
           rw [if_neg c35] at H
           exact absurd H (by simp)
         case' n11_ =>
          rw [if_neg c34] at H
          exact absurd H (by simp)
        case' n10_ =>
         rw [if_neg c33] at H
         have c33b0 : decide (t182 ≤ t183) = false := decide_eq_false c33
         clear c33
         refine Or.elim (Classical.em (0 ≤ t183)) (fun c40 => ?p14_) (fun c40 => ?n14_)
         case' p14_ =>
          rw [if_pos c40] at H
          have c40b0 := eq_true c40
          have c40b1 : decide (0 ≤ t183) = true := decide_eq_true c40
          clear c40
          refine Or.elim (Classical.em (t183 ≤ (wrap64 (t182 + 1)))) (fun c41 => ?p15_) (fun c41 => ?n15_)
          case' p15_ =>
           rw [if_pos c41] at H
           have c41b0 := eq_true c41
           have c41b1 : decide (t183 ≤ (wrap64 (t182 + 1))) = true := decide_eq_true c41
           refine Or.elim (Classical.em ((wrap64 (t182 + 1)) ≤ (((rd_T48 l0_1 t180).f1).length : Int))) (fun c42 => ?p16_) (fun c42 => ?n16_)
           case' p16_ =>
            rw [if_pos c42] at H
            have c42b0 := eq_true c42
            have c42b1 : decide ((wrap64 (t182 + 1)) ≤ (((rd_T48 l0_1 t180).f1).length : Int)) = true := decide_eq_true c42
            replace H := Option.bind_eq_some_iff.mp H
            obtain ⟨t189, A430, H⟩ := H
            replace H : ((slices_Reverse_string_string.f kj19 t189).bind fun t192 => (some (t192, 0))) = some (r1, r2) := H
            have A43 := Aside0.mk A430
            clear A430
            replace H := Option.bind_eq_some_iff.mp H
            obtain ⟨t192, A440, H⟩ := H
            replace H : (some (t192, 0)) = some (r1, r2) := H
            have A44 := Aside0.mk A440
            clear A440
            simp only [Option.some.injEq, Prod.mk.injEq] at H
            obtain ⟨rfl, rfl⟩ := H
            obtain ⟨i045, hi045, _, hsz45, _⟩ := info_parts info9
            obtain ⟨A45, hcut45, hA45, hC45⟩ := print_mid_of (P := Try.prog) Value.string (⟨#[]⟩ : ByteArray) 27 9 .i64 .i64 Try.underlying27 hi045 hsz45 A181_1 c181_1 ((rd_T48 l0_1 t180).f1) t183 (wrap64 (t182 + 1)) (of_decide_eq_true (by first | (with_reducible assumption) | assumption)) (by first | omega | exact of_decide_eq_true (by first | (with_reducible assumption) | assumption)) (of_decide_eq_true (by first | (with_reducible assumption) | assumption)) HC181_1.out
            have HR188 := Aside0.mk (Kd.C_of_reads (h1 := fun _ => rfl) (hA45 _ (Kd.reads_of_C HR181_1.out)))
            have HC188 := Aside0.mk hC45
            clear hA45 hC45 hi045 hsz45
            have hm8_2 := Aside0.mk trivial
           case' n16_ =>
            rw [if_neg c42] at H
            exact absurd H (by simp)
          case' n15_ =>
           rw [if_neg c41] at H
           exact absurd H (by simp)
         case' n14_ =>
          rw [if_neg c40] at H
          exact absurd H (by simp)
       all_goals
        first
         | clear hm8_0
           go_wp2
           go_ret2
           exact ⟨_, by first | rfl | (simp [errW_none, errW_some] <;> rfl) | (simp [*, errW_none, errW_some] <;> rfl), by first | exact Kd.R_nil _ _ _ _ _ | exact Kd.N_nil _ _ _ _ _ | exact Kd.V_nil _ _ _ _ _ | exact Kd.Q_nil _ _ _ _ _ | exact Kd.S_nil _ _ _ _ _, by repeat (first | (with_reducible first | exact HB.out | apply below_alloc | apply pw_below_drewN | apply below_drew1 | refine below_set ?_ GE177.out | refine below_set ?_ GE178.out) | exact HB.out)⟩
         | (first | (have _hm := hm8_1) | (have _hm := hm8_2))
           go_wp2_with (first | ((with_reducible refine gate_callee (f := 53) rfl ?_); refine goesL_ (some 55) rfl rfl Try.func53 (by kernel_rfl) rfl #[.slice A38 ((((rd_T48 l0_1 t180).f1).take ((wrap64 (t183 + 1)) : Int).toNat).drop (t182 : Int).toNat).length (c181_1 - t182.toNat)] rfl (by (try simp only [List.map_toArray, List.map_cons, List.map_nil]); first | done | (rw [show ((((rd_T48 l0_1 t180).f1).take ((wrap64 (t183 + 1)) : Int).toNat).drop (t182 : Int).toNat).length = ((wrap64 (t183 + 1)).toNat - t182.toNat) from (by rw [List.length_drop, List.length_take]; have h_ : ((wrap64 (t183 + 1)) : Int) ≤ (((rd_T48 l0_1 t180).f1).length : Int) := of_decide_eq_true (by first | (with_reducible assumption) | assumption); omega)] <;> rfl) | rfl | (simp only [List.length_drop, List.length_take]; rfl)) ?_; (with_reducible refine (slices_Clone_string_string.calls _ _ ((((rd_T48 l0_1 t180).f1).take ((wrap64 (t183 + 1)) : Int).toNat).drop (t182 : Int).toNat) t185 _ ?side1 ?side2 A37.out).mono ?_); (case side1 => repeat (first | exact (Kd.C_below HR184.out HB.out) | (with_reducible refine Kd.C_alloc ?_ _) | (with_reducible refine Kd.C_drewN ?_ _) | (with_reducible refine Kd.C_drew ?_))); (case side2 => exact HC184.out); rintro e wx108e1 ⟨v186, rfl, hox108e1, hb⟩; refine ⟨_, rfl, ?_⟩; have n0_ := Aside0.mk (Kd.R_lower (Kd.R_newB hox108e1 (g := gb178) (o := .cells #[.string a1] 9 (0, 0)) blk_s) (below_size bel_s)); have n1_ := Aside0.mk (blk_below (g := gb177) (o := .cells #[.slice A0_0 l0_0.length c0_0, .slice (some ad181) l0_1.length c0_1] 25 (0, 0)) blk_s hb); have n2_ := Aside0.mk (blk_below (g := gb178) (o := .cells #[.string a1] 9 (0, 0)) blk_s hb); have n3_ := Aside0.mk (below_step bel_s hb); clear BK177; clear BK178; clear HB; have HO187 := n0_; have BK177 := n1_; have BK178 := n2_; have HB := n3_; clear n0_ n1_ n2_ n3_; (try clear hb); (try clear hb2); (try clear hk); (try clear hi); (try clear hox108e1)) | ((with_reducible refine gate_callee (f := 53) rfl ?_); refine goesL_ (some 61) rfl rfl Try.func53 (by kernel_rfl) rfl #[.slice A45 ((((rd_T48 l0_1 t180).f1).take ((wrap64 (t182 + 1)) : Int).toNat).drop (t183 : Int).toNat).length (c181_1 - t183.toNat)] rfl (by (try simp only [List.map_toArray, List.map_cons, List.map_nil]); first | done | (rw [show ((((rd_T48 l0_1 t180).f1).take ((wrap64 (t182 + 1)) : Int).toNat).drop (t183 : Int).toNat).length = ((wrap64 (t182 + 1)).toNat - t183.toNat) from (by rw [List.length_drop, List.length_take]; have h_ : ((wrap64 (t182 + 1)) : Int) ≤ (((rd_T48 l0_1 t180).f1).length : Int) := of_decide_eq_true (by first | (with_reducible assumption) | assumption); omega)] <;> rfl) | rfl | (simp only [List.length_drop, List.length_take]; rfl)) ?_; (with_reducible refine (slices_Clone_string_string.calls _ _ ((((rd_T48 l0_1 t180).f1).take ((wrap64 (t182 + 1)) : Int).toNat).drop (t183 : Int).toNat) t189 _ ?side1 ?side2 A43.out).mono ?_); (case side1 => repeat (first | exact (Kd.C_below HR188.out HB.out) | (with_reducible refine Kd.C_alloc ?_ _) | (with_reducible refine Kd.C_drewN ?_ _) | (with_reducible refine Kd.C_drew ?_))); (case side2 => exact HC188.out); rintro e wx8a781 ⟨v190, rfl, hox8a781, hb⟩; refine ⟨_, rfl, ?_⟩; have n0_ := Aside0.mk (Kd.R_lower (Kd.R_newB hox8a781 (g := gb178) (o := .cells #[.string a1] 9 (0, 0)) blk_s) (below_size bel_s)); have n1_ := Aside0.mk (blk_below (g := gb177) (o := .cells #[.slice A0_0 l0_0.length c0_0, .slice (some ad181) l0_1.length c0_1] 25 (0, 0)) blk_s hb); have n2_ := Aside0.mk (blk_below (g := gb178) (o := .cells #[.string a1] 9 (0, 0)) blk_s hb); have n3_ := Aside0.mk (below_step bel_s hb); clear BK177; clear BK178; clear HB; have HO191 := n0_; have BK177 := n1_; have BK178 := n2_; have HB := n3_; clear n0_ n1_ n2_ n3_; (try clear hb); (try clear hb2); (try clear hk); (try clear hi); (try clear hox8a781); obtain ⟨Aox8a781, cox8a781, eox8a781⟩ := Kd.R_slice HO191.out; subst eox8a781) | ((with_reducible refine gate_callee (f := 54) rfl ?_); refine goesL_ (some 63) rfl rfl Try.func54 (by kernel_rfl) rfl #[.slice Aox8a781 t189.length cox8a781] rfl any_s ?_; (with_reducible refine (slices_Reverse_string_string.calls kj19 (fun k_ => some k_ = (.slice Aox8a781 t189.length cox8a781 : Value).ownBlock) (.slice Aox8a781 t189.length cox8a781) t189 t192 w _ ?side1 ?side2 A44.out).mono ?_); (case side1 => repeat (first | (with_reducible first | exact HB.out | apply below_alloc | apply pw_below_drewN | apply below_drew1 | refine below_set ?_ GE177.out | refine below_set ?_ GE178.out) | exact HB.out)); (case side2 => exact Kd.R_tight rfl HO191.out); rintro e wx4d011 ⟨rfl, hy0, hb, hkp⟩; refine ⟨_, rfl, ?_⟩; have n0_ := Aside0.mk (blk_kept blk_s hkp (fun hs_ => (fun e_ => (Kd.R_ne HO191.out BK177.out (by decide)) e_) hs_)); have n1_ := Aside0.mk (blk_kept blk_s hkp (fun hs_ => (fun e_ => (Kd.R_away HO191.out (fun _ hk => hk.2)) e_) hs_)); have n2_ := Aside0.mk (Kd.R_reok rfl hy0 (fun k_ e_ => HO191.out.1 k_ e_)); have n3_ := Aside0.mk (hb); clear BK177; clear BK178; clear HO191; clear HB; have BK177 := n0_; have BK178 := n1_; have HO191 := n2_; have HB := n3_; clear n0_ n1_ n2_ n3_; (try clear hb); (try clear hkp); (try clear hy0)))
           go_ret2
           first
            | clear hm8_1
              exact ⟨_, by first | rfl | (simp [errW_none, errW_some] <;> rfl) | (simp [*, errW_none, errW_some] <;> rfl), by (with_reducible repeat (first | apply Kd.R_alloc | apply Kd.R_drewN | apply Kd.R_drew)); exact Kd.R_mono HO187.out (fun _ hk => trivial), by repeat (first | (with_reducible first | exact HB.out | apply below_alloc | apply pw_below_drewN | apply below_drew1 | refine below_set ?_ GE177.out | refine below_set ?_ GE178.out) | exact HB.out)⟩
            | clear hm8_2
              exact ⟨_, by first | rfl | (simp [errW_none, errW_some] <;> rfl) | (simp [*, errW_none, errW_some] <;> rfl), by (with_reducible repeat (first | apply Kd.R_alloc | apply Kd.R_drewN | apply Kd.R_drew)); exact Kd.R_mono HO191.out (fun _ hk => trivial), by repeat (first | (with_reducible first | exact HB.out | apply below_alloc | apply pw_below_drewN | apply below_drew1 | refine below_set ?_ GE177.out | refine below_set ?_ GE178.out) | exact HB.out)⟩

/-! ### route_isAirway_1: function 137 -/
/-- Whether an element has this name. -/
def route_isAirway_1.p (s : ByteArray) (x : S48) : Bool := decide (x.f0 = s)
set_option maxHeartbeats 8000000 in
set_option maxRecDepth 100000 in
theorem route_isAirway_1.pred {s : ByteArray} {b ty : Nat} {w : World} (hb : w.heap[b]? = some (.cells #[.string s] ty (0, 0))) : IdxF.Pred Try.prog k48 true (.func (.func 137) #[] #[.pointer (some ⟨b, 0, none⟩)]) (route_isAirway_1.p s) w := by
  refine ⟨137, _, rfl, enters_of Try.func137 (by kernel_rfl) rfl, fun W x cs hW hK => ?_⟩
  obtain ⟨A1, c1, rfl, _⟩ := k48_open hK
  have hbW := blk_below hb hW
  have hc : W.cell? ⟨b, 0, none⟩ = some (.string s) := (blk_cell hbW 0).trans rfl
  have hlt := blk_lt hbW
  clear hb hbW hW
  unfold route_isAirway_1.p
  change Calls Try.prog 137 #[.agg #[.string x.f0, .slice A1 x.f1.length c1], .pointer (some ⟨b, 0, none⟩)] W _
  generalize x.f0 = x0
  go_enter Try.func137, Try.ntmps137
  go_wp2
  go_ret
  exact ⟨by first | rfl | (rw [IdxF.str_eq]; rfl), below_alloc (Below.refl _ _) _⟩

/-! ### route_isAirway: function 101 -/
def route_isAirway.f (l0_0 : List (S40)) (l0_1 : List (S48)) (a1 : ByteArray) : Option (Bool) := (api_Airway_121.f l0_1 (route_isAirway_1.p a1)).bind fun t195 => (some t195)
set_option maxHeartbeats 8000000 in
set_option maxRecDepth 100000 in
theorem route_isAirway.calls (A0_0 : Option Addr) (c0_0 : Nat) (l0_0 : List (S40)) (A0_1 : Option Addr) (c0_1 : Nat) (l0_1 : List (S48)) (a1 : ByteArray) (r : Bool) (w : World) (hr0_0 : Kd.C k40 w A0_0 l0_0.length l0_0) (hc0_0 : l0_0.length ≤ c0_0) (hr0_1 : Kd.C k48 w A0_1 l0_1.length l0_1) (hc0_1 : l0_1.length ≤ c0_1) (h : route_isAirway.f l0_0 l0_1 a1 = some r) :
    Calls Try.prog 101 #[.agg #[.slice A0_0 l0_0.length c0_0, .slice A0_1 l0_1.length c0_1], .string a1] w fun e w' => e = .returned (.bool r) ∧ Below w.heap.size w w' := by
 have hu25 := Try.underlying25
 have HR0_0 := Aside0.mk hr0_0
 have HC0_0 := Aside0.mk hc0_0
 clear hr0_0 hc0_0
 have HR0_1 := Aside0.mk hr0_1
 have HC0_1 := Aside0.mk hc0_1
 clear hr0_1 hc0_1
 have HB := Aside0.mk (Below.refl w.heap.size w)
 have H : ((api_Airway_121.f l0_1 (route_isAirway_1.p a1)).bind fun t195 => (some t195)) = some r := h
 clear h
 replace H := Option.bind_eq_some_iff.mp H
 obtain ⟨t195, A30, H⟩ := H
 replace H : (some t195) = some r := H
 have A3 := Aside0.mk A30
 clear A30
 obtain rfl := Option.some.inj H
 go_enter Try.func101, Try.ntmps101
 go_wp2_with (first | ((with_reducible refine gate_dst (N := 2) rfl ?_); refine box_event ?hg (N := 2) ?hd (cs := #[.slice A0_0 l0_0.length c0_0, .slice A0_1 l0_1.length c0_1]) (t := 25) ?hr ?_; (case hd => rfl); (case hg => rfl); (case hr => first | (go_simp; done) | (go_simp; rfl)); intro gb193 hg w4 hbox hb; have n0_ := Aside0.mk (below_step bel_s hb); have n1_ := Aside0.mk (hbox); have n2_ := Aside0.mk ((by rw [hg]; exact (below_size bel_s) : w.heap.size ≤ gb193)); have n3_ := Aside0.mk ((by rw [hg]; exact (below_size bel_s) : w.heap.size ≤ gb193)); clear HB; have HB := n0_; have BK193 := n1_; have GW193 := n2_; have GE193 := n3_; clear n0_ n1_ n2_ n3_; clear hb hbox hg) | ((with_reducible refine gate_dst (N := 3) rfl ?_); refine box_event ?hg (N := 3) ?hd (cs := #[.string a1]) (t := 9) ?hr ?_; (case hd => rfl); (case hg => rfl); (case hr => first | (go_simp; done) | (go_simp; rfl)); intro gb194 hg w5 hbox hb; have n0_ := Aside0.mk (blk_below (g := gb193) (o := .cells #[.slice A0_0 l0_0.length c0_0, .slice A0_1 l0_1.length c0_1] 25 (0, 0)) blk_s hb); have n1_ := Aside0.mk (below_step bel_s hb); have n2_ := Aside0.mk (hbox); have n3_ := Aside0.mk ((by rw [hg]; exact (below_size bel_s) : w.heap.size ≤ gb194)); have n4_ := Aside0.mk ((by rw [hg]; exact (below_size bel_s) : w.heap.size ≤ gb194)); have n5_ := Aside0.mk ((by rw [hg]; exact Nat.ne_of_lt (blk_lt (g := gb193) (o := .cells #[.slice A0_0 l0_0.length c0_0, .slice A0_1 l0_1.length c0_1] 25 (0, 0)) blk_s) : gb193 ≠ gb194)); have n6_ := Aside0.mk ((by rw [hg]; exact Nat.ne_of_gt (blk_lt (g := gb193) (o := .cells #[.slice A0_0 l0_0.length c0_0, .slice A0_1 l0_1.length c0_1] 25 (0, 0)) blk_s) : gb194 ≠ gb193)); clear BK193; clear HB; have BK193 := n0_; have HB := n1_; have BK194 := n2_; have GW194 := n3_; have GE194 := n4_; have NB193_194 := n5_; have NB194_193 := n6_; clear n0_ n1_ n2_ n3_ n4_ n5_ n6_; clear hb hbox hg; have hnb6 := NB193_194.out; have hnc6 := NB194_193.out; have hcz7_0 : w5.cell? ⟨gb193, 0, none⟩ = some (.slice A0_0 l0_0.length c0_0) := (blk_cell BK193.out 0).trans rfl; have hcz7_1 : w5.cell? ⟨gb193, 1, none⟩ = some (.slice A0_1 l0_1.length c0_1) := (blk_cell BK193.out 1).trans rfl; have hfz7_0 := blk_frozen BK193.out 0; have hfz7_1 := blk_frozen BK193.out 1) | ((with_reducible refine gate_callee (f := 121) rfl ?_); refine goesL_ (some 8) rfl rfl Try.func121 (by kernel_rfl) rfl #[.slice A0_1 l0_1.length c0_1, .func (.func 137) #[] #[.pointer (some ⟨gb194, 0, none⟩)]] rfl any_s ?_; (with_reducible refine (api_Airway_121.calls _ _ l0_1 (route_isAirway_1.p a1) t195 _ ?side1 ?side2 ?side3 A3.out).mono ?_); (case side1 => repeat (first | exact (Kd.C_below HR0_1.out HB.out) | (with_reducible refine Kd.C_alloc ?_ _) | (with_reducible refine Kd.C_drewN ?_ _) | (with_reducible refine Kd.C_drew ?_))); (case side2 => exact HC0_1.out); (case side3 => exact route_isAirway_1.pred blk_s); rintro e w8 ⟨rfl, hb⟩; refine ⟨_, rfl, ?_⟩; have n0_ := Aside0.mk (blk_below (g := gb193) (o := .cells #[.slice A0_0 l0_0.length c0_0, .slice A0_1 l0_1.length c0_1] 25 (0, 0)) blk_s hb); have n1_ := Aside0.mk (blk_below (g := gb194) (o := .cells #[.string a1] 9 (0, 0)) blk_s hb); have n2_ := Aside0.mk (below_step bel_s hb); clear BK193; clear BK194; clear HB; have BK193 := n0_; have BK194 := n1_; have HB := n2_; clear n0_ n1_ n2_; (try clear hb); (try clear hb2); (try clear hk); (try clear hi)))
 go_ret
 exact ⟨by first | rfl | (simp [errW_none, errW_some] <;> rfl) | (simp [*, errW_none, errW_some] <;> rfl), by repeat (first | (with_reducible first | exact HB.out | apply below_alloc | apply pw_below_drewN | apply below_drew1 | refine below_set ?_ GE193.out | refine below_set ?_ GE194.out) | exact HB.out)⟩

end Go.Proofs.Ytbpbpojnfhhbjaa.PRouteLength
