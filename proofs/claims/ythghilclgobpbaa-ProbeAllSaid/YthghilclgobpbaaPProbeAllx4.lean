/- Made by a program of this session (wip/tools/myprint.py, over the kit's printer): that the Go functions answer as the Lean functions printed beside them. -/
import Derived.Test.YthghilclgobpbaaTSq2
import Derived.Test.YthghilclgobpbaaPProbeAllx0
import Derived.Test.YthghilclgobpbaaPProbeAllx2
import Derived.Test.YthghilclgobpbaaPProbeAllx3
namespace Go.Proofs.Ythghilclgobpbaa.PProbeAll
open Go.RowKit Go.Proofs.YthghilclgobpbaaW.PrintWords Go.Proofs.YthghilclgobpbaaW.PrintLast Go.Proofs.YthghilclgobpbaaW.PrintMore
attribute [local go_sem] max2_int min2_int max_two min_two max_three min_three max_four min_four   -- for this text's walks alone
set_option linter.unusedVariables false
set_option linter.unusedSimpArgs false

/-! ### plane_Toward: function 114 -/
def plane_Toward.j0 : Nat → Int → Int → Bool → Int → Int → Int → Int → Option (Int × Int × Int)
  | 0, _, _, _, _, _, _, _ => none
  | k + 1, x2, x3, x18, x154000, x154001, x155000, x155001 => if x18 = true then (some (0, 0, 4)) else ((num_DivDown.f k (wrap64 ((wrap64 (x155000 - x154000)) * x2)) x3).bind fun bt158 => ((num_DivDown.f k (wrap64 ((wrap64 (x155001 - x154001)) * x2)) x3).bind fun bt160 => (some (wrap64 (x154000 + bt158.1), wrap64 (x154001 + bt160.1), 0))))
def plane_Toward.f (k : Nat) (a0_0 : Int) (a0_1 : Int) (a1_0 : Int) (a1_1 : Int) (a2 : Int) (a3 : Int) : Option (Int × Int × Int) := if a3 ≤ 0 then (some (0, 0, 10)) else (if a3 > 200000 then (plane_Toward.j0 k a2 a3 true a0_0 a0_1 a1_0 a1_1) else (if a2 < 0 then (plane_Toward.j0 k a2 a3 true a0_0 a0_1 a1_0 a1_1) else (if a2 > a3 then (plane_Toward.j0 k a2 a3 true a0_0 a0_1 a1_0 a1_1) else ((plane_Check.f a0_0 a0_1).bind fun t156 => (if t156 = 0 then ((plane_Check.f a1_0 a1_1).bind fun t157 => (plane_Toward.j0 k a2 a3 (t157 != 0) a0_0 a0_1 a1_0 a1_1)) else (plane_Toward.j0 k a2 a3 true a0_0 a0_1 a1_0 a1_1))))))
theorem plane_Toward.mono_l : ∀ k, (∀ y0 y1 y2 y3 y4 y5 y6, LeO (plane_Toward.j0 k y0 y1 y2 y3 y4 y5 y6) (plane_Toward.j0 (k + 1) y0 y1 y2 y3 y4 y5 y6))
  | 0 => fun _ _ _ _ _ _ _ r h => by simp [plane_Toward.j0] at h
  | k + 1 => by
    have ih0 := plane_Toward.mono_l k
    · intro y0 y1 y2 y3 y4 y5 y6; unfold plane_Toward.j0
      repeat' first
      | (with_reducible exact ih0 _ _ _ _ _ _ _)
      | (with_reducible exact num_DivDown.mono _ _ _)
      | (with_reducible exact LeO.refl _)
      | (with_reducible exact LeO.none _)
      | (with_reducible refine LeO.ite ?_ ?_)
      | (with_reducible refine LeO.bind ?_ (fun _ => ?_))
      | exact ih0 _ _ _ _ _ _ _
      | exact num_DivDown.mono _ _ _
      | exact LeO.none _
      | refine LeO.ite ?_ ?_
      | refine LeO.bind ?_ (fun _ => ?_)
theorem plane_Toward.mono : ∀ a0 a1 a2 a3 a4 a5 k, LeO (plane_Toward.f k a0 a1 a2 a3 a4 a5) (plane_Toward.f (k + 1) a0 a1 a2 a3 a4 a5) := by
  intro a0 a1 a2 a3 a4 a5 k; have ih0 := plane_Toward.mono_l k; unfold plane_Toward.f
  repeat' first
      | (with_reducible exact ih0 _ _ _ _ _ _ _)
      | (with_reducible exact num_DivDown.mono _ _ _)
      | (with_reducible exact LeO.refl _)
      | (with_reducible exact LeO.none _)
      | (with_reducible refine LeO.ite ?_ ?_)
      | (with_reducible refine LeO.bind ?_ (fun _ => ?_))
      | exact ih0 _ _ _ _ _ _ _
      | exact num_DivDown.mono _ _ _
      | exact LeO.none _
      | refine LeO.ite ?_ ?_
      | refine LeO.bind ?_ (fun _ => ?_)
set_option maxHeartbeats 8000000 in
set_option maxRecDepth 100000 in
theorem plane_Toward.calls (k : Nat) (a0_0 : Int) (a0_1 : Int) (a1_0 : Int) (a1_1 : Int) (a2 : Int) (a3 : Int) (r1 : Int) (r2 : Int) (r3 : Int) (w : World) (h : plane_Toward.f k a0_0 a0_1 a1_0 a1_1 a2 a3 = some (r1, r2, r3)) :
    Calls Try.prog 114 #[.agg #[.int .i64 a0_0, .int .i64 a0_1], .agg #[.int .i64 a1_0, .int .i64 a1_1], .int .i64 a2, .int .i64 a3] w fun e w' => e = .returned (.tuple #[.agg #[.int .i64 r1, .int .i64 r2], .int .i64 r3]) ∧ Below w.heap.size w w' := by
 have hu41 := Try.underlying41; have HB := Aside0.mk (Below.refl w.heap.size w); have H : (if a3 ≤ 0 then (some (0, 0, 10)) else (if a3 > 200000 then (plane_Toward.j0 k a2 a3 true a0_0 a0_1 a1_0 a1_1) else (if a2 < 0 then (plane_Toward.j0 k a2 a3 true a0_0 a0_1 a1_0 a1_1) else (if a2 > a3 then (plane_Toward.j0 k a2 a3 true a0_0 a0_1 a1_0 a1_1) else ((plane_Check.f a0_0 a0_1).bind fun t156 => (if t156 = 0 then ((plane_Check.f a1_0 a1_1).bind fun t157 => (plane_Toward.j0 k a2 a3 (t157 != 0) a0_0 a0_1 a1_0 a1_1)) else (plane_Toward.j0 k a2 a3 true a0_0 a0_1 a1_0 a1_1))))))) = some (r1, r2, r3) := h; clear h; refine Or.elim (Classical.em (a3 ≤ 0)) (fun c5 => ?p2_) (fun c5 => ?n2_)
 case' p2_ =>
  rw [if_pos c5] at H; have c5b0 : decide (a3 ≤ 0) = true := decide_eq_true c5; clear c5; simp only [Option.some.injEq, Prod.mk.injEq] at H; obtain ⟨rfl, rfl, rfl⟩ := H; have hm1_0 := Aside0.mk trivial
 case' n2_ =>
  rw [if_neg c5] at H; have c5b0 : decide (a3 ≤ 0) = false := decide_eq_false c5; clear c5; have HC12 := Aside0.mk H; clear H; have hm1_1 := Aside0.mk trivial
 all_goals
  go_enter Try.func114, Try.ntmps114
  first
   | clear hm1_0
     go_wp2_with (first | ((with_reducible refine gate_dst (N := 4) rfl ?_); refine box_s #[.int .i64 a0_0, .int .i64 a0_1] 41 ?_; intro gb153 hg wxfce61 hbox hb; have n0_ := st HB hb; have n1_ := Aside0.mk (hbox); have n2_ := ge HB hg; have n3_ := ge HB hg; clear HB; have HB := n0_; have BK153 := n1_; have GW153 := n2_; have GE153 := n3_; clear n0_ n1_ n2_ n3_; clear hb hbox hg) | ((with_reducible refine gate_dst (N := 5) rfl ?_); refine box_s #[.int .i64 a1_0, .int .i64 a1_1] 41 ?_; intro gb154 hg wxccc21 hbox hb; have n0_ := kp BK153 hb; have n1_ := st HB hb; have n2_ := Aside0.mk (hbox); have n3_ := ge HB hg; have n4_ := ge HB hg; have n5_ := nl BK153 hg; have n6_ := nr BK153 hg; clear BK153; clear HB; have BK153 := n0_; have HB := n1_; have BK154 := n2_; have GW154 := n3_; have GE154 := n4_; have NB153_154 := n5_; have NB154_153 := n6_; clear n0_ n1_ n2_ n3_ n4_ n5_ n6_; clear hb hbox hg) | ((with_reducible refine gate_dst (N := 8) rfl ?_); refine box_s #[.int .i64 0, .int .i64 0] 41 ?_; intro gb155 hg wx11471 hbox hb; have n0_ := kp BK153 hb; have n1_ := kp BK154 hb; have n2_ := st HB hb; have n3_ := Aside0.mk (hbox); have n4_ := ge HB hg; have n5_ := ge HB hg; have n6_ := nl BK153 hg; have n7_ := nr BK153 hg; have n8_ := nl BK154 hg; have n9_ := nr BK154 hg; clear BK153; clear BK154; clear HB; have BK153 := n0_; have BK154 := n1_; have HB := n2_; have BK155 := n3_; have GW155 := n4_; have GE155 := n5_; have NB153_155 := n6_; have NB155_153 := n7_; have NB154_155 := n8_; have NB155_154 := n9_; clear n0_ n1_ n2_ n3_ n4_ n5_ n6_ n7_ n8_ n9_; clear hb hbox hg; have hnbx11471 := NB155_153.out; have hncx11471 := NB153_155.out; have hnbx11472 := NB155_154.out; have hncx11472 := NB154_155.out; have hczx11471 : wx11471.cell? ⟨gb155, 0, none⟩ = some (.int .i64 0) := bc BK155 0; have hczx11472 : wx11471.cell? ⟨gb155, 1, none⟩ = some (.int .i64 0) := bc BK155 1; have hfzx11471 := blk_frozen BK155.out 0; have hfzx11472 := blk_frozen BK155.out 1))
     refine bodyPost_ret (results_ct rfl _ _ gb155 41 #[.int .i64 0, .int .i64 0] (0, 0) _ rfl (by (with_reducible repeat (first | refine blk_drewN ?_ _ | refine blk_drew ?_ | refine blk_alloc ?_ _)); refine blk_put (cs := #[.int .i64 0, .int .i64 0]) ?_ 1 _ rfl; (with_reducible repeat (first | refine blk_drewN ?_ _ | refine blk_drew ?_ | refine blk_alloc ?_ _)); refine blk_put (cs := #[.int .i64 0, .int .i64 0]) ?_ 0 _ rfl; (with_reducible repeat (first | refine blk_drewN ?_ _ | refine blk_drew ?_ | refine blk_alloc ?_ _)); exact BK155.out) Try.underlying41 rfl (by kernel_rfl)) rfl ?_
     exact ⟨by first | rfl | (simp [errW_none, errW_some] <;> rfl) | (simp [*, errW_none, errW_some] <;> rfl), by repeat (first | (with_reducible first | exact HB.out | apply below_alloc | apply pw_below_drewN | apply below_drew1 | refine below_set ?_ GE153.out | refine below_set ?_ GE154.out | refine below_set ?_ GE155.out) | exact HB.out)⟩
   | clear hm1_1
     go_upto_region 3 with (first | ((with_reducible refine gate_dst (N := 4) rfl ?_); refine box_s #[.int .i64 a0_0, .int .i64 a0_1] 41 ?_; intro gb153 hg wxfce61 hbox hb; have n0_ := st HB hb; have n1_ := Aside0.mk (hbox); have n2_ := ge HB hg; have n3_ := ge HB hg; clear HB; have HB := n0_; have BK153 := n1_; have GW153 := n2_; have GE153 := n3_; clear n0_ n1_ n2_ n3_; clear hb hbox hg) | ((with_reducible refine gate_dst (N := 5) rfl ?_); refine box_s #[.int .i64 a1_0, .int .i64 a1_1] 41 ?_; intro gb154 hg wxccc21 hbox hb; have n0_ := kp BK153 hb; have n1_ := st HB hb; have n2_ := Aside0.mk (hbox); have n3_ := ge HB hg; have n4_ := ge HB hg; have n5_ := nl BK153 hg; have n6_ := nr BK153 hg; clear BK153; clear HB; have BK153 := n0_; have HB := n1_; have BK154 := n2_; have GW154 := n3_; have GE154 := n4_; have NB153_154 := n5_; have NB154_153 := n6_; clear n0_ n1_ n2_ n3_ n4_ n5_ n6_; clear hb hbox hg) | ((with_reducible refine gate_dst (N := 8) rfl ?_); refine box_s #[.int .i64 0, .int .i64 0] 41 ?_; intro gb155 hg wxf2c81 hbox hb; have n0_ := kp BK153 hb; have n1_ := kp BK154 hb; have n2_ := st HB hb; have n3_ := Aside0.mk (hbox); have n4_ := ge HB hg; have n5_ := ge HB hg; have n6_ := nl BK153 hg; have n7_ := nr BK153 hg; have n8_ := nl BK154 hg; have n9_ := nr BK154 hg; clear BK153; clear BK154; clear HB; have BK153 := n0_; have BK154 := n1_; have HB := n2_; have BK155 := n3_; have GW155 := n4_; have GE155 := n5_; have NB153_155 := n6_; have NB155_153 := n7_; have NB154_155 := n8_; have NB155_154 := n9_; clear n0_ n1_ n2_ n3_ n4_ n5_ n6_ n7_ n8_ n9_; clear hb hbox hg))
     (try simp only [Act.put, List.setIfInBounds_toArray, List.set_cons_zero, List.set_cons_succ])
     go_cut [18] (fun v18 wc => ∃ (kq : Nat) (x18_11 : Bool), v18 = .bool x18_11 ∧ Aside0 (plane_Toward.j0 kq a2 a3 x18_11 a0_0 a0_1 a1_0 a1_1 = some (r1, r2, r3)) ∧ Aside0 (kq ≤ k) ∧ Aside0 (wc.heap[gb153]? = some (.cells #[.int .i64 a0_0, .int .i64 a0_1] 41 (0, 0))) ∧ Aside0 (wc.heap[gb154]? = some (.cells #[.int .i64 a1_0, .int .i64 a1_1] 41 (0, 0))) ∧ Aside0 (wc.heap[gb155]? = some (.cells #[.int .i64 0, .int .i64 0] 41 (0, 0))) ∧ Aside0 (Below w.heap.size w wc))
     case first =>
      have H := HC12.out; clear HC12; refine Or.elim (Classical.em (a3 > 200000)) (fun c16 => ?p4_) (fun c16 => ?n4_)
      case' p4_ =>
       rw [if_pos c16] at H; have c16b0 : decide (200000 < a3) = true := decide_eq_true c16; clear c16
       (first | rw [c16b0] | (simp only [i64_w, i32_w]; rw [c16b0]) | skip)
       have hm3_0 := Aside0.mk trivial
      case' n4_ =>
       rw [if_neg c16] at H; have c16b0 : decide (200000 < a3) = false := decide_eq_false c16; clear c16
       (first | rw [c16b0] | (simp only [i64_w, i32_w]; rw [c16b0]) | skip)
       refine Or.elim (Classical.em (a2 < 0)) (fun c17 => ?p5_) (fun c17 => ?n5_)
       case' p5_ =>
        rw [if_pos c17] at H; have c17b0 : decide (a2 < 0) = true := decide_eq_true c17; clear c17; have hm3_0 := Aside0.mk trivial
       case' n5_ =>
        rw [if_neg c17] at H; have c17b0 : decide (a2 < 0) = false := decide_eq_false c17; clear c17; refine Or.elim (Classical.em (a2 > a3)) (fun c18 => ?p6_) (fun c18 => ?n6_)
        case' p6_ =>
         rw [if_pos c18] at H; have c18b0 : decide (a3 < a2) = true := decide_eq_true c18; clear c18; have hm3_0 := Aside0.mk trivial
        case' n6_ =>
         rw [if_neg c18] at H; have c18b0 : decide (a3 < a2) = false := decide_eq_false c18; clear c18; replace H := Option.bind_eq_some_iff.mp H; obtain ⟨t156, A190, H⟩ := H; replace H : (if t156 = 0 then ((plane_Check.f a1_0 a1_1).bind fun t157 => (plane_Toward.j0 k a2 a3 (t157 != 0) a0_0 a0_1 a1_0 a1_1)) else (plane_Toward.j0 k a2 a3 true a0_0 a0_1 a1_0 a1_1)) = some (r1, r2, r3) := H; have A19 := Aside0.mk A190; clear A190; refine Or.elim (Classical.em (t156 = 0)) (fun c20 => ?p7_) (fun c20 => ?n7_)
         case' p7_ =>
          rw [if_pos c20] at H; have c20b0 : (t156 == 0) = true := beq_iff_eq.mpr c20; have c20b1 : (t156 != 0) = false := bne_eq_false_iff_eq.mpr c20; clear c20; replace H := Option.bind_eq_some_iff.mp H; obtain ⟨t157, A210, H⟩ := H; replace H : (plane_Toward.j0 k a2 a3 (t157 != 0) a0_0 a0_1 a1_0 a1_1) = some (r1, r2, r3) := H; have A21 := Aside0.mk A210; clear A210; have hm3_1 := Aside0.mk trivial
         case' n7_ =>
          rw [if_neg c20] at H; have c20b0 : (t156 == 0) = false := beq_eq_false_iff_ne.mpr c20; have c20b1 : (t156 != 0) = true := bne_iff_ne.mpr c20; have hm3_1 := Aside0.mk trivial
      all_goals
       have H' := Aside0.mk H; clear H
       first
        | clear hm3_0; go_wp2; go_meet
          case rel => exact ⟨_, (true), (by first | rfl | (simp; done) | (simp [*]; done)), H', ⟨by first | omega | exact Nat.le_refl _⟩, ⟨by (with_reducible repeat (first | refine blk_drewN ?_ _ | refine blk_drew ?_ | refine blk_alloc ?_ _)); exact BK153.out⟩, ⟨by (with_reducible repeat (first | refine blk_drewN ?_ _ | refine blk_drew ?_ | refine blk_alloc ?_ _)); exact BK154.out⟩, ⟨by (with_reducible repeat (first | refine blk_drewN ?_ _ | refine blk_drew ?_ | refine blk_alloc ?_ _)); exact BK155.out⟩, ⟨by repeat (first | (with_reducible first | exact HB.out | apply below_alloc | apply pw_below_drewN | apply below_drew1 | refine below_set ?_ GE153.out | refine below_set ?_ GE154.out | refine below_set ?_ GE155.out) | exact HB.out)⟩⟩
        | clear hm3_1; have hnbzb1 := NB153_154.out; have hnczb1 := NB154_153.out; have hnbzb2 := NB153_155.out; have hnczb2 := NB155_153.out; have hczzb1 : wxf2c81.cell? ⟨gb153, 0, none⟩ = some (.int .i64 a0_0) := bc BK153 0; have hczzb2 : wxf2c81.cell? ⟨gb153, 1, none⟩ = some (.int .i64 a0_1) := bc BK153 1; have hfzzb1 := blk_frozen BK153.out 0; have hfzzb2 := blk_frozen BK153.out 1
          go_wp2_with (first | (go_at_call 37; (with_reducible refine (plane_Check.calls a1_0 a1_1 t157 _ A21.out).mono ?_); rintro e wxbe3d1 ⟨rfl, hb⟩; have n0_ := kp BK153 hb; have n1_ := kp BK154 hb; have n2_ := kp BK155 hb; have n3_ := st HB hb; clear BK153; clear BK154; clear BK155; clear HB; have BK153 := n0_; have BK154 := n1_; have BK155 := n2_; have HB := n3_; clear n0_ n1_ n2_ n3_; (try clear hb); (try clear hb2); (try clear hk); (try clear hi)) | (go_at_call 37; (with_reducible refine (plane_Check.calls a0_0 a0_1 t156 _ A19.out).mono ?_); rintro e wx4cb91 ⟨rfl, hb⟩; have n0_ := kp BK153 hb; have n1_ := kp BK154 hb; have n2_ := kp BK155 hb; have n3_ := st HB hb; clear BK153; clear BK154; clear BK155; clear HB; have BK153 := n0_; have BK154 := n1_; have BK155 := n2_; have HB := n3_; clear n0_ n1_ n2_ n3_; (try clear hb); (try clear hb2); (try clear hk); (try clear hi); have hnby8ef610 := NB154_155.out; have hncy8ef611 := NB155_154.out; have hczy8ef612 : wx4cb91.cell? ⟨gb154, 0, none⟩ = some (.int .i64 a1_0) := bc BK154 0; have hczy8ef613 : wx4cb91.cell? ⟨gb154, 1, none⟩ = some (.int .i64 a1_1) := bc BK154 1; have hfzy8ef614 := blk_frozen BK154.out 0; have hfzy8ef615 := blk_frozen BK154.out 1))
          go_meet
          case rel => first | (exact ⟨_, ((t157 != 0)), (by first | rfl | (simp; done) | (simp [*]; done)), H', ⟨by first | omega | exact Nat.le_refl _⟩, ⟨by (with_reducible repeat (first | refine blk_drewN ?_ _ | refine blk_drew ?_ | refine blk_alloc ?_ _)); exact BK153.out⟩, ⟨by (with_reducible repeat (first | refine blk_drewN ?_ _ | refine blk_drew ?_ | refine blk_alloc ?_ _)); exact BK154.out⟩, ⟨by (with_reducible repeat (first | refine blk_drewN ?_ _ | refine blk_drew ?_ | refine blk_alloc ?_ _)); exact BK155.out⟩, ⟨by repeat (first | (with_reducible first | exact HB.out | apply below_alloc | apply pw_below_drewN | apply below_drew1 | refine below_set ?_ GE153.out | refine below_set ?_ GE154.out | refine below_set ?_ GE155.out) | exact HB.out)⟩⟩) | (exact ⟨_, (true), (by first | rfl | (simp; done) | (simp [*]; done)), H', ⟨by first | omega | exact Nat.le_refl _⟩, ⟨by (with_reducible repeat (first | refine blk_drewN ?_ _ | refine blk_drew ?_ | refine blk_alloc ?_ _)); exact BK153.out⟩, ⟨by (with_reducible repeat (first | refine blk_drewN ?_ _ | refine blk_drew ?_ | refine blk_alloc ?_ _)); exact BK154.out⟩, ⟨by (with_reducible repeat (first | refine blk_drewN ?_ _ | refine blk_drew ?_ | refine blk_alloc ?_ _)); exact BK155.out⟩, ⟨by repeat (first | (with_reducible first | exact HB.out | apply below_alloc | apply pw_below_drewN | apply below_drew1 | refine below_set ?_ GE153.out | refine below_set ?_ GE154.out | refine below_set ?_ GE155.out) | exact HB.out)⟩⟩)
     case rest =>
      clear HC12
      (try clear c1); (try clear c2); (try clear p2); (try clear c3); (try clear c5); (try clear c5b0); (try clear c9); (try clear c10); (try clear c11); (try clear c16); (try clear c16b0); (try clear c17); (try clear c17b0); (try clear c18); (try clear c18b0); (try clear c20); (try clear c20b0); (try clear c20b1); (try clear c22); (try clear c23); (try clear c26); (try clear c29); (try clear c30); (try clear hczza5); (try clear hczza6); (try clear hczza1); (try clear hczza2); (try clear hczx4cb91); (try clear hczx4cb92); (try clear hczza3); (try clear hczza4); (try clear hfzza5); (try clear hfzza6); (try clear hfzza1); (try clear hfzza2); (try clear hfzx4cb91); (try clear hfzx4cb92); (try clear hfzza3); (try clear hfzza4)
      obtain ⟨kq, x18_11, rfl, HA, HJ11, BK153, BK154, BK155, HB⟩ := hcut
      cases kq with
      | zero => exact absurd HA.out (by simp [plane_Toward.j0])
      | succ kj11 =>
       have H := HA.out; clear HA; simp only [plane_Toward.j0] at H
       by_cases c33 : x18_11 = true
       · subst c33
         have H1 : (some (0, 0, 4)) = some (r1, r2, r3) := by rw [if_pos rfl] at H; exact H
         clear H; have H := H1; clear H1; simp only [Option.some.injEq, Prod.mk.injEq] at H; obtain ⟨rfl, rfl, rfl⟩ := H; have hnbza5 := NB155_153.out; have hncza5 := NB153_155.out; have hnbza6 := NB155_154.out; have hncza6 := NB154_155.out; have hczza7 : wc.cell? ⟨gb155, 0, none⟩ = some (.int .i64 0) := bc BK155 0; have hczza8 : wc.cell? ⟨gb155, 1, none⟩ = some (.int .i64 0) := bc BK155 1; have hfzza7 := blk_frozen BK155.out 0; have hfzza8 := blk_frozen BK155.out 1; go_wp2; refine bodyPost_ret (results_ct rfl _ _ gb155 41 #[.int .i64 0, .int .i64 0] (0, 0) _ rfl (by (with_reducible repeat (first | refine blk_drewN ?_ _ | refine blk_drew ?_ | refine blk_alloc ?_ _)); refine blk_put (cs := #[.int .i64 0, .int .i64 0]) ?_ 1 _ rfl; (with_reducible repeat (first | refine blk_drewN ?_ _ | refine blk_drew ?_ | refine blk_alloc ?_ _)); refine blk_put (cs := #[.int .i64 0, .int .i64 0]) ?_ 0 _ rfl; (with_reducible repeat (first | refine blk_drewN ?_ _ | refine blk_drew ?_ | refine blk_alloc ?_ _)); exact BK155.out) Try.underlying41 rfl (by kernel_rfl)) rfl ?_
         exact ⟨by first | rfl | (simp [errW_none, errW_some] <;> rfl) | (simp [*, errW_none, errW_some] <;> rfl), by repeat (first | (with_reducible first | exact HB.out | apply below_alloc | apply pw_below_drewN | apply below_drew1 | refine below_set ?_ GE153.out | refine below_set ?_ GE154.out | refine below_set ?_ GE155.out) | exact HB.out)⟩
       · replace c33 := Bool.eq_false_iff.mpr c33; subst c33
         have H1 : ((num_DivDown.f kj11 (wrap64 ((wrap64 (a1_0 - a0_0)) * a2)) a3).bind fun bt158 => ((num_DivDown.f kj11 (wrap64 ((wrap64 (a1_1 - a0_1)) * a2)) a3).bind fun bt160 => (some (wrap64 (a0_0 + bt158.1), wrap64 (a0_1 + bt160.1), 0)))) = some (r1, r2, r3) := by rw [if_neg (show ¬ (false = true) by decide)] at H; exact H
         clear H; have H := H1; clear H1; replace H := Option.bind_eq_some_iff.mp H; obtain ⟨⟨t158, t159⟩, A370, H⟩ := H; replace H : ((num_DivDown.f kj11 (wrap64 ((wrap64 (a1_1 - a0_1)) * a2)) a3).bind fun bt160 => (some (wrap64 (a0_0 + t158), wrap64 (a0_1 + bt160.1), 0))) = some (r1, r2, r3) := H; have A37 := Aside0.mk A370; clear A370; replace H := Option.bind_eq_some_iff.mp H; obtain ⟨⟨t160, t161⟩, A380, H⟩ := H; replace H : (some (wrap64 (a0_0 + t158), wrap64 (a0_1 + t160), 0)) = some (r1, r2, r3) := H; have A38 := Aside0.mk A380; clear A380; simp only [Option.some.injEq, Prod.mk.injEq] at H; obtain ⟨rfl, rfl, rfl⟩ := H; have hnbza7 := NB154_153.out; have hncza7 := NB153_154.out; have hnbza8 := NB154_155.out; have hncza8 := NB155_154.out; have hczza9 : wc.cell? ⟨gb154, 0, none⟩ = some (.int .i64 a1_0) := bc BK154 0; have hczza10 : wc.cell? ⟨gb154, 1, none⟩ = some (.int .i64 a1_1) := bc BK154 1; have hfzza9 := blk_frozen BK154.out 0; have hfzza10 := blk_frozen BK154.out 1; have hnbza9 := NB153_155.out; have hncza9 := NB155_153.out; have hczza11 : wc.cell? ⟨gb153, 0, none⟩ = some (.int .i64 a0_0) := bc BK153 0; have hczza12 : wc.cell? ⟨gb153, 1, none⟩ = some (.int .i64 a0_1) := bc BK153 1; have hfzza11 := blk_frozen BK153.out 0; have hfzza12 := blk_frozen BK153.out 1
         go_wp2_with (first | ((with_reducible refine gate_callee (f := 126) rfl ?_); refine goesL_ (some 50) rfl rfl Try.func126 (by kernel_rfl) rfl #[.int .i64 (wrap64 ((wrap64 (a1_0 - a0_0)) * a2)), .int .i64 a3] rfl any_s ?_; (with_reducible refine (num_DivDown.calls kj11 (wrap64 ((wrap64 (a1_0 - a0_0)) * a2)) a3 t158 t159 _ A37.out).mono ?_); rintro e wx514d1 ⟨rfl, hb⟩; refine ⟨_, rfl, ?_⟩; have n0_ := kp BK153 hb; have n1_ := kp BK154 hb; have n2_ := kp BK155 hb; have n3_ := st HB hb; clear BK153; clear BK154; clear BK155; clear HB; have BK153 := n0_; have BK154 := n1_; have BK155 := n2_; have HB := n3_; clear n0_ n1_ n2_ n3_; (try clear hb); (try clear hb2); (try clear hk); (try clear hi); have hczx514d1 : wx514d1.cell? ⟨gb154, 0, none⟩ = some (.int .i64 a1_0) := bc BK154 0; have hczx514d2 : wx514d1.cell? ⟨gb154, 1, none⟩ = some (.int .i64 a1_1) := bc BK154 1; have hfzx514d1 := blk_frozen BK154.out 0; have hfzx514d2 := blk_frozen BK154.out 1; have hczx514d3 : wx514d1.cell? ⟨gb153, 0, none⟩ = some (.int .i64 a0_0) := bc BK153 0; have hczx514d4 : wx514d1.cell? ⟨gb153, 1, none⟩ = some (.int .i64 a0_1) := bc BK153 1; have hfzx514d3 := blk_frozen BK153.out 0; have hfzx514d4 := blk_frozen BK153.out 1) | ((with_reducible refine gate_callee (f := 126) rfl ?_); refine goesL_ (some 62) rfl rfl Try.func126 (by kernel_rfl) rfl #[.int .i64 (wrap64 ((wrap64 (a1_1 - a0_1)) * a2)), .int .i64 a3] rfl any_s ?_; (with_reducible refine (num_DivDown.calls kj11 (wrap64 ((wrap64 (a1_1 - a0_1)) * a2)) a3 t160 t161 _ A38.out).mono ?_); rintro e wx728f1 ⟨rfl, hb⟩; refine ⟨_, rfl, ?_⟩; have n0_ := kp BK153 hb; have n1_ := kp BK154 hb; have n2_ := kp BK155 hb; have n3_ := st HB hb; clear BK153; clear BK154; clear BK155; clear HB; have BK153 := n0_; have BK154 := n1_; have BK155 := n2_; have HB := n3_; clear n0_ n1_ n2_ n3_; (try clear hb); (try clear hb2); (try clear hk); (try clear hi); have hczx728f1 : wx728f1.cell? ⟨gb153, 0, none⟩ = some (.int .i64 a0_0) := bc BK153 0; have hczx728f2 : wx728f1.cell? ⟨gb153, 1, none⟩ = some (.int .i64 a0_1) := bc BK153 1; have hfzx728f1 := blk_frozen BK153.out 0; have hfzx728f2 := blk_frozen BK153.out 1; have hczx728f3 : wx728f1.cell? ⟨gb155, 0, none⟩ = some (.int .i64 0) := bc BK155 0; have hczx728f4 : wx728f1.cell? ⟨gb155, 1, none⟩ = some (.int .i64 0) := bc BK155 1; have hfzx728f3 := blk_frozen BK155.out 0; have hfzx728f4 := blk_frozen BK155.out 1))
         refine bodyPost_ret (results_ct rfl _ _ gb155 41 #[.int .i64 (wrap64 (a0_0 + t158)), .int .i64 (wrap64 (a0_1 + t160))] (0, 0) _ rfl (by (with_reducible repeat (first | refine blk_drewN ?_ _ | refine blk_drew ?_ | refine blk_alloc ?_ _)); refine blk_put (cs := #[.int .i64 (wrap64 (a0_0 + t158)), .int .i64 0]) ?_ 1 _ rfl; (with_reducible repeat (first | refine blk_drewN ?_ _ | refine blk_drew ?_ | refine blk_alloc ?_ _)); refine blk_put (cs := #[.int .i64 0, .int .i64 0]) ?_ 0 _ rfl; (with_reducible repeat (first | refine blk_drewN ?_ _ | refine blk_drew ?_ | refine blk_alloc ?_ _)); exact BK155.out) Try.underlying41 rfl (by kernel_rfl)) rfl ?_
         exact ⟨by first | rfl | (simp [errW_none, errW_some] <;> rfl) | (simp [*, errW_none, errW_some] <;> rfl), by repeat (first | (with_reducible first | exact HB.out | apply below_alloc | apply pw_below_drewN | apply below_drew1 | refine below_set ?_ GE153.out | refine below_set ?_ GE154.out | refine below_set ?_ GE155.out) | exact HB.out)⟩

/-! ### tube_between: function 115 -/
def tube_between.f (k : Nat) (a0 : Int) (a1 : Int) (a2 : Int) (a3 : Int) : Option (Int) := (num_DivDown.f k (wrap64 ((wrap64 (a1 - a0)) * a2)) a3).bind fun bt162 => (some (wrap64 (a0 + bt162.1)))
theorem tube_between.mono : ∀ a0 a1 a2 a3 k, LeO (tube_between.f k a0 a1 a2 a3) (tube_between.f (k + 1) a0 a1 a2 a3) := by
  intro a0 a1 a2 a3 k; unfold tube_between.f
  repeat' first
      | (with_reducible exact num_DivDown.mono _ _ _)
      | (with_reducible exact LeO.refl _)
      | (with_reducible exact LeO.none _)
      | (with_reducible refine LeO.ite ?_ ?_)
      | (with_reducible refine LeO.bind ?_ (fun _ => ?_))
      | exact num_DivDown.mono _ _ _
      | exact LeO.none _
      | refine LeO.ite ?_ ?_
      | refine LeO.bind ?_ (fun _ => ?_)
set_option maxHeartbeats 8000000 in
set_option maxRecDepth 100000 in
theorem tube_between.calls (k : Nat) (a0 : Int) (a1 : Int) (a2 : Int) (a3 : Int) (r : Int) (w : World) (h : tube_between.f k a0 a1 a2 a3 = some r) :
    Calls Try.prog 115 #[.int .i64 a0, .int .i64 a1, .int .i64 a2, .int .i64 a3] w fun e w' => e = .returned (.int .i64 r) ∧ Below w.heap.size w w' := by
 have HB := Aside0.mk (Below.refl w.heap.size w); have H : ((num_DivDown.f k (wrap64 ((wrap64 (a1 - a0)) * a2)) a3).bind fun bt162 => (some (wrap64 (a0 + bt162.1)))) = some r := h; clear h; replace H := Option.bind_eq_some_iff.mp H; obtain ⟨⟨t162, t163⟩, A50, H⟩ := H; replace H : (some (wrap64 (a0 + t162))) = some r := H; have A5 := Aside0.mk A50; clear A50; obtain rfl := Option.some.inj H; go_enter Try.func115, Try.ntmps115
 go_wp2_with (first | ((with_reducible refine gate_callee (f := 126) rfl ?_); refine goesL_ (some 18) rfl rfl Try.func126 (by kernel_rfl) rfl #[.int .i64 (wrap64 ((wrap64 (a1 - a0)) * a2)), .int .i64 a3] rfl any_s ?_; (with_reducible refine (num_DivDown.calls k (wrap64 ((wrap64 (a1 - a0)) * a2)) a3 t162 t163 _ A5.out).mono ?_); rintro e w6 ⟨rfl, hb⟩; refine ⟨_, rfl, ?_⟩; have n0_ := st HB hb; clear HB; have HB := n0_; clear n0_; (try clear hb); (try clear hb2); (try clear hk); (try clear hi)))
 go_ret
 exact ⟨by first | rfl | (simp [errW_none, errW_some] <;> rfl) | (simp [*, errW_none, errW_some] <;> rfl), by repeat (first | (with_reducible first | exact HB.out | apply below_alloc | apply pw_below_drewN | apply below_drew1) | exact HB.out)⟩

/-! ### num_DivUp: function 127 -/
def num_DivUp.f (k : Nat) (a0 : Int) (a1 : Int) : Option (Int × Int) := (num_DivDown.f k a0 a1).bind fun bt164 => (if bt164.2 = 0 then (if a1 = 0 then (none) else (if (Int.tmod a0 a1) = 0 then (some (bt164.1, bt164.2)) else (some (wrap64 (bt164.1 + 1), bt164.2)))) else (some (bt164.1, bt164.2)))
theorem num_DivUp.mono : ∀ a0 a1 k, LeO (num_DivUp.f k a0 a1) (num_DivUp.f (k + 1) a0 a1) := by
  intro a0 a1 k; unfold num_DivUp.f
  repeat' first
      | (with_reducible exact num_DivDown.mono _ _ _)
      | (with_reducible exact LeO.refl _)
      | (with_reducible exact LeO.none _)
      | (with_reducible refine LeO.ite ?_ ?_)
      | (with_reducible refine LeO.bind ?_ (fun _ => ?_))
      | exact num_DivDown.mono _ _ _
      | exact LeO.none _
      | refine LeO.ite ?_ ?_
      | refine LeO.bind ?_ (fun _ => ?_)
set_option maxHeartbeats 8000000 in
set_option maxRecDepth 100000 in
theorem num_DivUp.calls (k : Nat) (a0 : Int) (a1 : Int) (r1 : Int) (r2 : Int) (w : World) (h : num_DivUp.f k a0 a1 = some (r1, r2)) :
    Calls Try.prog 127 #[.int .i64 a0, .int .i64 a1] w fun e w' => e = .returned (.tuple #[.int .i64 r1, .int .i64 r2]) ∧ Below w.heap.size w w' := by
 have HB := Aside0.mk (Below.refl w.heap.size w); have H : ((num_DivDown.f k a0 a1).bind fun bt164 => (if bt164.2 = 0 then (if a1 = 0 then (none) else (if (Int.tmod a0 a1) = 0 then (some (bt164.1, bt164.2)) else (some (wrap64 (bt164.1 + 1), bt164.2)))) else (some (bt164.1, bt164.2)))) = some (r1, r2) := h; clear h; replace H := Option.bind_eq_some_iff.mp H; obtain ⟨⟨t164, t165⟩, A30, H⟩ := H; replace H : (if t165 = 0 then (if a1 = 0 then (none) else (if (Int.tmod a0 a1) = 0 then (some (t164, t165)) else (some (wrap64 (t164 + 1), t165)))) else (some (t164, t165))) = some (r1, r2) := H; have A3 := Aside0.mk A30; clear A30; refine Or.elim (Classical.em (t165 = 0)) (fun c4 => ?p2_) (fun c4 => ?n2_)
 case' p2_ =>
  rw [if_pos c4] at H; have c4b0 : (t165 == 0) = true := beq_iff_eq.mpr c4; have c4b1 : (t165 != 0) = false := bne_eq_false_iff_eq.mpr c4; clear c4; refine Or.elim (Classical.em (a1 = 0)) (fun c5 => ?p3_) (fun c5 => ?n3_)
  case' p3_ =>
   rw [if_pos c5] at H; exact absurd H (by simp)
  case' n3_ =>
   rw [if_neg c5] at H; have c5b0 : (a1 == 0) = false := beq_eq_false_iff_ne.mpr c5; have c5b1 : (a1 != 0) = true := bne_iff_ne.mpr c5; refine Or.elim (Classical.em ((Int.tmod a0 a1) = 0)) (fun c6 => ?p4_) (fun c6 => ?n4_)
   case' p4_ =>
    rw [if_pos c6] at H; have c6b0 : ((Int.tmod a0 a1) == 0) = true := beq_iff_eq.mpr c6; have c6b1 : ((Int.tmod a0 a1) != 0) = false := bne_eq_false_iff_eq.mpr c6; clear c6; simp only [Option.some.injEq, Prod.mk.injEq] at H; obtain ⟨rfl, rfl⟩ := H
   case' n4_ =>
    rw [if_neg c6] at H; have c6b0 : ((Int.tmod a0 a1) == 0) = false := beq_eq_false_iff_ne.mpr c6; have c6b1 : ((Int.tmod a0 a1) != 0) = true := bne_iff_ne.mpr c6; simp only [Option.some.injEq, Prod.mk.injEq] at H; obtain ⟨rfl, rfl⟩ := H
 case' n2_ =>
  rw [if_neg c4] at H; have c4b0 : (t165 == 0) = false := beq_eq_false_iff_ne.mpr c4; have c4b1 : (t165 != 0) = true := bne_iff_ne.mpr c4; simp only [Option.some.injEq, Prod.mk.injEq] at H; obtain ⟨rfl, rfl⟩ := H
 all_goals
  go_enter Try.func127, Try.ntmps127
  go_wp2_with (first | ((with_reducible refine gate_callee (f := 126) rfl ?_); refine goesL_ (some 11) rfl rfl Try.func126 (by kernel_rfl) rfl #[.int .i64 a0, .int .i64 a1] rfl any_s ?_; (with_reducible refine (num_DivDown.calls k a0 a1 t164 t165 _ A3.out).mono ?_); rintro e wxb3b41 ⟨rfl, hb⟩; refine ⟨_, rfl, ?_⟩; have n0_ := st HB hb; clear HB; have HB := n0_; clear n0_; (try clear hb); (try clear hb2); (try clear hk); (try clear hi)))
  go_ret2
  exact ⟨by first | rfl | (simp [errW_none, errW_some] <;> rfl) | (simp [*, errW_none, errW_some] <;> rfl), by repeat (first | (with_reducible first | exact HB.out | apply below_alloc | apply pw_below_drewN | apply below_drew1) | exact HB.out)⟩

/-! ### tube_above: function 116 -/
def tube_above.f (k : Nat) (a0 : Int) (a1 : Int) (a2 : Int) (a3 : Int) : Option (Int) := (num_DivUp.f k (wrap64 ((wrap64 (a1 - a0)) * a2)) a3).bind fun bt166 => (some (wrap64 (a0 + bt166.1)))
theorem tube_above.mono : ∀ a0 a1 a2 a3 k, LeO (tube_above.f k a0 a1 a2 a3) (tube_above.f (k + 1) a0 a1 a2 a3) := by
  intro a0 a1 a2 a3 k; unfold tube_above.f
  repeat' first
      | (with_reducible exact num_DivUp.mono _ _ _)
      | (with_reducible exact LeO.refl _)
      | (with_reducible exact LeO.none _)
      | (with_reducible refine LeO.ite ?_ ?_)
      | (with_reducible refine LeO.bind ?_ (fun _ => ?_))
      | exact num_DivUp.mono _ _ _
      | exact LeO.none _
      | refine LeO.ite ?_ ?_
      | refine LeO.bind ?_ (fun _ => ?_)
set_option maxHeartbeats 8000000 in
set_option maxRecDepth 100000 in
theorem tube_above.calls (k : Nat) (a0 : Int) (a1 : Int) (a2 : Int) (a3 : Int) (r : Int) (w : World) (h : tube_above.f k a0 a1 a2 a3 = some r) :
    Calls Try.prog 116 #[.int .i64 a0, .int .i64 a1, .int .i64 a2, .int .i64 a3] w fun e w' => e = .returned (.int .i64 r) ∧ Below w.heap.size w w' := by
 have HB := Aside0.mk (Below.refl w.heap.size w); have H : ((num_DivUp.f k (wrap64 ((wrap64 (a1 - a0)) * a2)) a3).bind fun bt166 => (some (wrap64 (a0 + bt166.1)))) = some r := h; clear h; replace H := Option.bind_eq_some_iff.mp H; obtain ⟨⟨t166, t167⟩, A50, H⟩ := H; replace H : (some (wrap64 (a0 + t166))) = some r := H; have A5 := Aside0.mk A50; clear A50; obtain rfl := Option.some.inj H; go_enter Try.func116, Try.ntmps116
 go_wp2_with (first | ((with_reducible refine gate_callee (f := 127) rfl ?_); refine goesL_ (some 18) rfl rfl Try.func127 (by kernel_rfl) rfl #[.int .i64 (wrap64 ((wrap64 (a1 - a0)) * a2)), .int .i64 a3] rfl any_s ?_; (with_reducible refine (num_DivUp.calls k (wrap64 ((wrap64 (a1 - a0)) * a2)) a3 t166 t167 _ A5.out).mono ?_); rintro e w6 ⟨rfl, hb⟩; refine ⟨_, rfl, ?_⟩; have n0_ := st HB hb; clear HB; have HB := n0_; clear n0_; (try clear hb); (try clear hb2); (try clear hk); (try clear hi)))
 go_ret
 exact ⟨by first | rfl | (simp [errW_none, errW_some] <;> rfl) | (simp [*, errW_none, errW_some] <;> rfl), by repeat (first | (with_reducible first | exact HB.out | apply below_alloc | apply pw_below_drewN | apply below_drew1) | exact HB.out)⟩

end Go.Proofs.Ythghilclgobpbaa.PProbeAll
