/- Made by a program of this session (wip/tools/myprint.py, over the kit's printer): that the Go functions answer as the Lean functions printed beside them. -/
import Derived.Test.YthghilclgobpbaaTSq2
import Derived.Test.YthghilclgobpbaaPPolygonOverlapx0
import Derived.Test.YthghilclgobpbaaPPolygonOverlapx2
import Derived.Test.YthghilclgobpbaaPPolygonOverlapx5
import Derived.Test.YthghilclgobpbaaPPolygonOverlapx6
import Derived.Test.YthghilclgobpbaaPPolygonOverlapx7
namespace Go.Proofs.Ythghilclgobpbaa.PPolygonOverlap
open Go.RowKit Go.Proofs.YthghilclgobpbaaW.PrintWords Go.Proofs.YthghilclgobpbaaW.PrintLast Go.Proofs.YthghilclgobpbaaW.PrintMore
attribute [local go_sem] max2_int min2_int max_two min_two max_three min_three max_four min_four   -- for this text's walks alone
set_option linter.unusedVariables false
set_option linter.unusedSimpArgs false

/-! ### polygon_Apart: function 32 -/
mutual
def polygon_Apart.j0 : Nat → List (S41) → Int → Bool → Int → Int → Option (Bool × Int)
  | 0, _, _, _, _, _ => none
  | k + 1, x0, x2, x27, x207000, x207001 => if x27 = true then (some (false, 4)) else ((polygon_locate.f k x0 x207000 x207001).bind fun t209 => (if t209 ≥ 0 then (some (false, 0)) else (polygon_Apart.l0 k x0 x2 x0 (x0.length : Int) 0 x207000 x207001)))
def polygon_Apart.l0 : Nat → List (S41) → Int → List (S41) → Int → Int → Int → Int → Option (Bool × Int)
  | 0, _, _, _, _, _, _, _ => none
  | k + 1, x0, x2, x32, x33, x34, x207000, x207001 => if x34 < x33 then (if 0 ≤ x34 then (if x34 < (x32.length : Int) then (if (x0.length : Int) = 0 then (none) else (if 0 ≤ (Int.tmod (wrap64 ((wrap64 (x34 + (x0.length : Int))) - 1)) (x0.length : Int)) then (if (Int.tmod (wrap64 ((wrap64 (x34 + (x0.length : Int))) - 1)) (x0.length : Int)) < (x0.length : Int) then ((polygon_near.f ((rd_T41 x0 (Int.tmod (wrap64 ((wrap64 (x34 + (x0.length : Int))) - 1)) (x0.length : Int))).f0) ((rd_T41 x0 (Int.tmod (wrap64 ((wrap64 (x34 + (x0.length : Int))) - 1)) (x0.length : Int))).f1) ((rd_T41 x32 x34).f0) ((rd_T41 x32 x34).f1) x207000 x207001 x2).bind fun t213 => (if t213 = true then (some (false, 0)) else (polygon_Apart.l0 k x0 x2 x32 x33 (wrap64 (x34 + 1)) x207000 x207001))) else (none)) else (none))) else (none)) else (none)) else (some (true, 0))
end
def polygon_Apart.f (k : Nat) (l0 : List (S41)) (a1_0 : Int) (a1_1 : Int) (a2 : Int) : Option (Bool × Int) := (polygon_Check.f k l0).bind fun t207 => (if t207 = 0 then ((plane_Check.f a1_0 a1_1).bind fun t208 => (if t208 = 0 then (if a2 < 0 then (polygon_Apart.j0 k l0 a2 true a1_0 a1_1) else (polygon_Apart.j0 k l0 a2 (decide (a2 > 1000000)) a1_0 a1_1)) else (some (false, t208)))) else (some (false, t207)))
theorem polygon_Apart.mono_l : ∀ k, (∀ y0 y1 y2 y3 y4, LeO (polygon_Apart.j0 k y0 y1 y2 y3 y4) (polygon_Apart.j0 (k + 1) y0 y1 y2 y3 y4)) ∧ (∀ y0 y1 y2 y3 y4 y5 y6, LeO (polygon_Apart.l0 k y0 y1 y2 y3 y4 y5 y6) (polygon_Apart.l0 (k + 1) y0 y1 y2 y3 y4 y5 y6))
  | 0 => ⟨fun _ _ _ _ _ r h => by simp [polygon_Apart.j0] at h, fun _ _ _ _ _ _ _ r h => by simp [polygon_Apart.l0] at h⟩
  | k + 1 => by
    obtain ⟨ih0, ih1⟩ := polygon_Apart.mono_l k; refine ⟨?_, ?_⟩
    · intro y0 y1 y2 y3 y4; unfold polygon_Apart.j0
      repeat' first
      | (with_reducible exact ih0 _ _ _ _ _)
      | (with_reducible exact ih1 _ _ _ _ _ _ _)
      | (with_reducible exact polygon_Check.mono _ _)
      | (with_reducible exact polygon_locate.mono _ _ _ _)
      | (with_reducible exact LeO.refl _)
      | (with_reducible exact LeO.none _)
      | (with_reducible refine LeO.ite ?_ ?_)
      | (with_reducible refine LeO.bind ?_ (fun _ => ?_))
      | exact ih0 _ _ _ _ _
      | exact ih1 _ _ _ _ _ _ _
      | exact polygon_Check.mono _ _
      | exact polygon_locate.mono _ _ _ _
      | exact LeO.none _
      | refine LeO.ite ?_ ?_
      | refine LeO.bind ?_ (fun _ => ?_)
    · intro y0 y1 y2 y3 y4 y5 y6; unfold polygon_Apart.l0
      repeat' first
      | (with_reducible exact ih0 _ _ _ _ _)
      | (with_reducible exact ih1 _ _ _ _ _ _ _)
      | (with_reducible exact polygon_Check.mono _ _)
      | (with_reducible exact polygon_locate.mono _ _ _ _)
      | (with_reducible exact LeO.refl _)
      | (with_reducible exact LeO.none _)
      | (with_reducible refine LeO.ite ?_ ?_)
      | (with_reducible refine LeO.bind ?_ (fun _ => ?_))
      | exact ih0 _ _ _ _ _
      | exact ih1 _ _ _ _ _ _ _
      | exact polygon_Check.mono _ _
      | exact polygon_locate.mono _ _ _ _
      | exact LeO.none _
      | refine LeO.ite ?_ ?_
      | refine LeO.bind ?_ (fun _ => ?_)
theorem polygon_Apart.mono : ∀ a0 a1 a2 a3 k, LeO (polygon_Apart.f k a0 a1 a2 a3) (polygon_Apart.f (k + 1) a0 a1 a2 a3) := by
  intro a0 a1 a2 a3 k; obtain ⟨ih0, ih1⟩ := polygon_Apart.mono_l k; unfold polygon_Apart.f
  repeat' first
      | (with_reducible exact ih0 _ _ _ _ _)
      | (with_reducible exact ih1 _ _ _ _ _ _ _)
      | (with_reducible exact polygon_Check.mono _ _)
      | (with_reducible exact polygon_locate.mono _ _ _ _)
      | (with_reducible exact LeO.refl _)
      | (with_reducible exact LeO.none _)
      | (with_reducible refine LeO.ite ?_ ?_)
      | (with_reducible refine LeO.bind ?_ (fun _ => ?_))
      | exact ih0 _ _ _ _ _
      | exact ih1 _ _ _ _ _ _ _
      | exact polygon_Check.mono _ _
      | exact polygon_locate.mono _ _ _ _
      | exact LeO.none _
      | refine LeO.ite ?_ ?_
      | refine LeO.bind ?_ (fun _ => ?_)
def polygon_Apart.T14 : Bool × List (List Nat × List Nat) := (true, [([], []), ([], []), ([], []), ([2], [2]), ([1, 3], [1, 3]), ([4], [4]), ([], []), ([6], [6]), ([5, 7], [5, 7]), ([0, 8], [0, 8]), ([9], [9]), ([], []), ([], []), ([], []), ([10, 11, 12, 13], [10, 11, 12, 13])])
def polygon_Apart.B14 : List Nat := [0, 0, 0, 4, 14, 30, 0, 64, 254, 511, 1023, 0, 0, 0, 16383]
theorem polygon_Apart.tab14 : rtab .any (opsOf Try.f32 14) = polygon_Apart.T14 := by kernel_rfl
theorem polygon_Apart.bits14 : waitsOk polygon_Apart.T14.2 polygon_Apart.B14 = true := by kernel_rfl
set_option maxHeartbeats 8000000 in
set_option maxRecDepth 100000 in
theorem polygon_Apart.calls (k : Nat) (A0 : Option Addr) (c0 : Nat) (l0 : List (S41)) (a1_0 : Int) (a1_1 : Int) (a2 : Int) (r1 : Bool) (r2 : Int) (w : World) (hr0 : Kd.C k41 w A0 l0.length l0) (hc0 : l0.length ≤ c0) (h : polygon_Apart.f k l0 a1_0 a1_1 a2 = some (r1, r2)) :
    Calls Try.prog 32 #[.slice A0 l0.length c0, .agg #[.int .i64 a1_0, .int .i64 a1_1], .int .i64 a2] w fun e w' => e = .returned (.tuple #[.bool r1, .int .i64 r2]) ∧ Below w.heap.size w w' := by
 have hu41 := Try.underlying41; have HR0 := Aside0.mk hr0; have HC0 := Aside0.mk hc0; clear hr0 hc0; have HB := Aside0.mk (Below.refl w.heap.size w); have H : ((polygon_Check.f k l0).bind fun t207 => (if t207 = 0 then ((plane_Check.f a1_0 a1_1).bind fun t208 => (if t208 = 0 then (if a2 < 0 then (polygon_Apart.j0 k l0 a2 true a1_0 a1_1) else (polygon_Apart.j0 k l0 a2 (decide (a2 > 1000000)) a1_0 a1_1)) else (some (false, t208)))) else (some (false, t207)))) = some (r1, r2) := h; clear h; replace H := Option.bind_eq_some_iff.mp H; obtain ⟨t207, A40, H⟩ := H; replace H : (if t207 = 0 then ((plane_Check.f a1_0 a1_1).bind fun t208 => (if t208 = 0 then (if a2 < 0 then (polygon_Apart.j0 k l0 a2 true a1_0 a1_1) else (polygon_Apart.j0 k l0 a2 (decide (a2 > 1000000)) a1_0 a1_1)) else (some (false, t208)))) else (some (false, t207))) = some (r1, r2) := H; have A4 := Aside0.mk A40; clear A40; refine Or.elim (Classical.em (t207 = 0)) (fun c5 => ?p2_) (fun c5 => ?n2_)
 case' p2_ =>
  rw [if_pos c5] at H; have c5b0 : (t207 == 0) = true := beq_iff_eq.mpr c5; have c5b1 : (t207 != 0) = false := bne_eq_false_iff_eq.mpr c5; clear c5; replace H := Option.bind_eq_some_iff.mp H; obtain ⟨t208, A60, H⟩ := H; replace H : (if t208 = 0 then (if a2 < 0 then (polygon_Apart.j0 k l0 a2 true a1_0 a1_1) else (polygon_Apart.j0 k l0 a2 (decide (a2 > 1000000)) a1_0 a1_1)) else (some (false, t208))) = some (r1, r2) := H; have A6 := Aside0.mk A60; clear A60; refine Or.elim (Classical.em (t208 = 0)) (fun c7 => ?p3_) (fun c7 => ?n3_)
  case' p3_ =>
   rw [if_pos c7] at H; have c7b0 : (t208 == 0) = true := beq_iff_eq.mpr c7; have c7b1 : (t208 != 0) = false := bne_eq_false_iff_eq.mpr c7; clear c7; have HC8 := Aside0.mk H; clear H; have hm1_0 := Aside0.mk trivial
  case' n3_ =>
   rw [if_neg c7] at H; have c7b0 : (t208 == 0) = false := beq_eq_false_iff_ne.mpr c7; have c7b1 : (t208 != 0) = true := bne_iff_ne.mpr c7; simp only [Option.some.injEq, Prod.mk.injEq] at H; obtain ⟨rfl, rfl⟩ := H; have hm1_1 := Aside0.mk trivial
 case' n2_ =>
  rw [if_neg c5] at H; have c5b0 : (t207 == 0) = false := beq_eq_false_iff_ne.mpr c5; have c5b1 : (t207 != 0) = true := bne_iff_ne.mpr c5; simp only [Option.some.injEq, Prod.mk.injEq] at H; obtain ⟨rfl, rfl⟩ := H; have hm1_1 := Aside0.mk trivial
 all_goals
  go_enter Try.func32, Try.ntmps32
  first
   | clear hm1_0
     go_upto_region 7 with (first | ((with_reducible refine gate_dst (N := 4) rfl ?_); refine box_s #[.int .i64 a1_0, .int .i64 a1_1] 41 ?_; intro gb206 hg wx82561 hbox hb; have n0_ := st HB hb; have n1_ := Aside0.mk (hbox); have n2_ := ge HB hg; have n3_ := ge HB hg; clear HB; have HB := n0_; have BK206 := n1_; have GW206 := n2_; have GE206 := n3_; clear n0_ n1_ n2_ n3_; clear hb hbox hg) | ((with_reducible refine gate_callee (f := 33) rfl ?_); refine goesL_ (some 13) rfl rfl Try.func33 (by kernel_rfl) rfl #[.slice A0 l0.length c0] rfl any_s ?_; (with_reducible refine (polygon_Check.calls k _ _ l0 t207 _ ?side1 ?side2 A4.out).mono ?_); (case side1 => exact cb_s (Kd.C_below HR0.out HB.out)); (case side2 => exact HC0.out); rintro e wxe2491 ⟨rfl, hb⟩; refine ⟨_, rfl, ?_⟩; have n0_ := kp BK206 hb; have n1_ := st HB hb; clear BK206; clear HB; have BK206 := n0_; have HB := n1_; clear n0_ n1_; (try clear hb); (try clear hb2); (try clear hk); (try clear hi); have hczxe2491 : wxe2491.cell? ⟨gb206, 0, none⟩ = some (.int .i64 a1_0) := bc BK206 0; have hczxe2492 : wxe2491.cell? ⟨gb206, 1, none⟩ = some (.int .i64 a1_1) := bc BK206 1; have hfzxe2491 := blk_frozen BK206.out 0; have hfzxe2492 := blk_frozen BK206.out 1) | ((with_reducible refine gate_callee (f := 37) rfl ?_); refine goesL_ (some 18) rfl rfl Try.func37 (by kernel_rfl) rfl #[.agg #[.int .i64 a1_0, .int .i64 a1_1]] rfl any_s ?_; (with_reducible refine (plane_Check.calls a1_0 a1_1 t208 _ A6.out).mono ?_); rintro e wx0f8a1 ⟨rfl, hb⟩; refine ⟨_, rfl, ?_⟩; have n0_ := kp BK206 hb; have n1_ := st HB hb; clear BK206; clear HB; have BK206 := n0_; have HB := n1_; clear n0_ n1_; (try clear hb); (try clear hb2); (try clear hk); (try clear hi)))
     (try simp only [Act.put, List.setIfInBounds_toArray, List.set_cons_zero, List.set_cons_succ])
     go_cut [27] (fun v27 wc => ∃ (kq : Nat) (x27_7 : Bool), v27 = .bool x27_7 ∧ Aside0 (polygon_Apart.j0 kq l0 a2 x27_7 a1_0 a1_1 = some (r1, r2)) ∧ Aside0 (kq ≤ k) ∧ Aside0 (wc.heap[gb206]? = some (.cells #[.int .i64 a1_0, .int .i64 a1_1] 41 (0, 0))) ∧ Aside0 (Below w.heap.size w wc))
     case first =>
      have H := HC8.out; clear HC8; refine Or.elim (Classical.em (a2 < 0)) (fun c13 => ?p5_) (fun c13 => ?n5_)
      case' p5_ =>
       rw [if_pos c13] at H; have c13b0 : decide (a2 < 0) = true := decide_eq_true c13; clear c13
       (first | rw [c13b0] | (simp only [i64_w, i32_w]; rw [c13b0]) | skip)
      case' n5_ =>
       rw [if_neg c13] at H; have c13b0 : decide (a2 < 0) = false := decide_eq_false c13; clear c13
       (first | rw [c13b0] | (simp only [i64_w, i32_w]; rw [c13b0]) | skip)
      all_goals
       have H' := Aside0.mk H; clear H; go_wp2; go_meet
       case rel => first | (exact ⟨_, (true), (by first | rfl | (simp; done) | (simp [*]; done)), H', ⟨by first | omega | exact Nat.le_refl _⟩, ⟨by (with_reducible repeat (first | refine blk_drewN ?_ _ | refine blk_drew ?_ | refine blk_alloc ?_ _)); exact BK206.out⟩, ⟨by repeat (first | (with_reducible first | exact HB.out | apply below_alloc | apply pw_below_drewN | apply below_drew1 | refine below_set ?_ GE206.out) | exact HB.out)⟩⟩) | (exact ⟨_, (decide (a2 > 1000000)), (by first | rfl | (simp; done) | (simp [*]; done)), H', ⟨by first | omega | exact Nat.le_refl _⟩, ⟨by (with_reducible repeat (first | refine blk_drewN ?_ _ | refine blk_drew ?_ | refine blk_alloc ?_ _)); exact BK206.out⟩, ⟨by repeat (first | (with_reducible first | exact HB.out | apply below_alloc | apply pw_below_drewN | apply below_drew1 | refine below_set ?_ GE206.out) | exact HB.out)⟩⟩)
     case rest =>
      clear HC8
      (try clear c1); (try clear p2); (try clear c3); (try clear c5); (try clear c5b0); (try clear c5b1); (try clear c7); (try clear c7b0); (try clear c7b1); (try clear c13); (try clear c13b0); (try clear hczxe2491); (try clear hczxe2492); (try clear hfzxe2491); (try clear hfzxe2492)
      obtain ⟨kq, x27_7, rfl, HA, HJ7, BK206, HB⟩ := hcut
      cases kq with
      | zero => exact absurd HA.out (by simp [polygon_Apart.j0])
      | succ kj7 =>
       have H := HA.out; clear HA; simp only [polygon_Apart.j0] at H
       by_cases c14 : x27_7 = true
       · subst c14
         have H1 : (some (false, 4)) = some (r1, r2) := by rw [if_pos rfl] at H; exact H
         clear H; have H := H1; clear H1; simp only [Option.some.injEq, Prod.mk.injEq] at H; obtain ⟨rfl, rfl⟩ := H; go_wp2; go_ret2
         exact ⟨by first | rfl | (simp [errW_none, errW_some] <;> rfl) | (simp [*, errW_none, errW_some] <;> rfl), by repeat (first | (with_reducible first | exact HB.out | apply below_alloc | apply pw_below_drewN | apply below_drew1 | refine below_set ?_ GE206.out) | exact HB.out)⟩
       · replace c14 := Bool.eq_false_iff.mpr c14; subst c14
         have H1 : ((polygon_locate.f kj7 l0 a1_0 a1_1).bind fun t209 => (if t209 ≥ 0 then (some (false, 0)) else (polygon_Apart.l0 kj7 l0 a2 l0 (l0.length : Int) 0 a1_0 a1_1))) = some (r1, r2) := by rw [if_neg (show ¬ (false = true) by decide)] at H; exact H
         clear H; have H := H1; clear H1; replace H := Option.bind_eq_some_iff.mp H; obtain ⟨t209, A150, H⟩ := H; replace H : (if t209 ≥ 0 then (some (false, 0)) else (polygon_Apart.l0 kj7 l0 a2 l0 (l0.length : Int) 0 a1_0 a1_1)) = some (r1, r2) := H; have A15 := Aside0.mk A150; clear A150
         by_cases c16 : t209 ≥ 0
         · rw [if_pos c16] at H; have c16b0 : decide (0 ≤ t209) = true := decide_eq_true c16; clear c16; simp only [Option.some.injEq, Prod.mk.injEq] at H; obtain ⟨rfl, rfl⟩ := H; have hczza1 : wc.cell? ⟨gb206, 0, none⟩ = some (.int .i64 a1_0) := bc BK206 0; have hczza2 : wc.cell? ⟨gb206, 1, none⟩ = some (.int .i64 a1_1) := bc BK206 1; have hfzza1 := blk_frozen BK206.out 0; have hfzza2 := blk_frozen BK206.out 1
           go_wp2_with (first | ((with_reducible refine gate_callee (f := 38) rfl ?_); refine goesL_ (some 30) rfl rfl Try.func38 (by kernel_rfl) rfl #[.slice A0 l0.length c0, .agg #[.int .i64 a1_0, .int .i64 a1_1]] rfl any_s ?_; (with_reducible refine (polygon_locate.calls kj7 _ _ l0 a1_0 a1_1 t209 _ ?side1 ?side2 A15.out).mono ?_); (case side1 => exact cb_s (Kd.C_below HR0.out HB.out)); (case side2 => exact HC0.out); rintro e wxb7911 ⟨rfl, hb⟩; refine ⟨_, rfl, ?_⟩; have n0_ := kp BK206 hb; have n1_ := st HB hb; clear BK206; clear HB; have BK206 := n0_; have HB := n1_; clear n0_ n1_; (try clear hb); (try clear hb2); (try clear hk); (try clear hi)))
           go_ret2
           exact ⟨by first | rfl | (simp [errW_none, errW_some] <;> rfl) | (simp [*, errW_none, errW_some] <;> rfl), by repeat (first | (with_reducible first | exact HB.out | apply below_alloc | apply pw_below_drewN | apply below_drew1 | refine below_set ?_ GE206.out) | exact HB.out)⟩
         · rw [if_neg c16] at H; have c16b0 : decide (0 ≤ t209) = false := decide_eq_false c16; clear c16; have H' := Aside0.mk H; clear H; have hczzc1 : wc.cell? ⟨gb206, 0, none⟩ = some (.int .i64 a1_0) := bc BK206 0; have hczzc2 : wc.cell? ⟨gb206, 1, none⟩ = some (.int .i64 a1_1) := bc BK206 1; have hfzzc1 := blk_frozen BK206.out 0; have hfzzc2 := blk_frozen BK206.out 1
           go_wp2_with (first | ((with_reducible refine gate_callee (f := 38) rfl ?_); refine goesL_ (some 30) rfl rfl Try.func38 (by kernel_rfl) rfl #[.slice A0 l0.length c0, .agg #[.int .i64 a1_0, .int .i64 a1_1]] rfl any_s ?_; (with_reducible refine (polygon_locate.calls kj7 _ _ l0 a1_0 a1_1 t209 _ ?side1 ?side2 A15.out).mono ?_); (case side1 => exact cb_s (Kd.C_below HR0.out HB.out)); (case side2 => exact HC0.out); rintro e wxb7911 ⟨rfl, hb⟩; refine ⟨_, rfl, ?_⟩; have n0_ := kp BK206 hb; have n1_ := st HB hb; clear BK206; clear HB; have BK206 := n0_; have HB := n1_; clear n0_ n1_; (try clear hb); (try clear hb2); (try clear hk); (try clear hi)))
           go_loopg [34] kj7 (fun kq v34 w' => ∃ (x34_2 : Int), v34 = .int .i64 x34_2 ∧ Aside0 (polygon_Apart.l0 kq l0 a2 l0 (l0.length : Int) x34_2 a1_0 a1_1 = some (r1, r2)) ∧ Aside0 (kq ≤ kj7) ∧ Aside0 (w'.heap[gb206]? = some (.cells #[.int .i64 a1_0, .int .i64 a1_1] 41 (0, 0))) ∧ Aside0 (Below w.heap.size w w'))
           case atStart => exact ⟨(0), (by first | rfl | (simp; done) | (simp [*]; done)), H', ⟨Nat.le_refl _⟩, ⟨by (with_reducible repeat (first | refine blk_drewN ?_ _ | refine blk_drew ?_ | refine blk_alloc ?_ _)); exact BK206.out⟩, ⟨by repeat (first | (with_reducible first | exact HB.out | apply below_alloc | apply pw_below_drewN | apply below_drew1 | refine below_set ?_ GE206.out) | exact HB.out)⟩⟩
           case round =>
            clear H'
            (try clear c1); (try clear p2); (try clear c3); (try clear c5); (try clear c5b0); (try clear c5b1); (try clear c7); (try clear c7b0); (try clear c7b1); (try clear c13); (try clear c13b0); (try clear c14); (try clear c16); (try clear c16b0); (try clear hczxe2491); (try clear hczxe2492); (try clear hczzc3); (try clear hczzc4); (try clear hczzc1); (try clear hczzc2); (try clear hfzxe2491); (try clear hfzxe2492); (try clear hfzzc3); (try clear hfzzc4); (try clear hfzzc1); (try clear hfzzc2); (try clear p2)
            obtain ⟨x34_2, rfl, HA, HK2, BK206, HB⟩ := hrel
            cases gk with
            | zero => exact absurd HA.out (by simp [polygon_Apart.l0])
            | succ k2 =>
             have H := HA.out; clear HA; simp only [polygon_Apart.l0] at H
             by_cases c21 : x34_2 < (l0.length : Int)
             · rw [if_pos c21] at H; have c21b0 : decide (x34_2 < (l0.length : Int)) = true := decide_eq_true c21; clear c21
               by_cases c22 : 0 ≤ x34_2
               · rw [if_pos c22] at H; have c22b0 : decide (0 ≤ x34_2) = true := decide_eq_true c22; clear c22
                 by_cases c23 : x34_2 < (l0.length : Int)
                 · rw [if_pos c23] at H; have c23b0 : decide (x34_2 < (l0.length : Int)) = true := decide_eq_true c23; clear c23
                   by_cases c24 : (l0.length : Int) = 0
                   · rw [if_pos c24] at H; exact absurd H (by simp)
                   · rw [if_neg c24] at H; have c24b0 : ((l0.length : Int) == 0) = false := beq_eq_false_iff_ne.mpr c24; have c24b1 : ((l0.length : Int) != 0) = true := bne_iff_ne.mpr c24
                     have c24b2 : ¬ (l0 = []) := fun h_ => c24 (by rw [h_]; rfl)
                     obtain ⟨ji25, hji25⟩ : ∃ j_ : Int, (Int.tmod (wrap64 ((wrap64 (x34_2 + (l0.length : Int))) - 1)) (l0.length : Int)) = j_ := ⟨_, rfl⟩
                     replace H : (if 0 ≤ (ji25) then (if (ji25) < (l0.length : Int) then ((polygon_near.f ((rd_T41 l0 (ji25)).f0) ((rd_T41 l0 (ji25)).f1) ((rd_T41 l0 x34_2).f0) ((rd_T41 l0 x34_2).f1) a1_0 a1_1 a2).bind fun t213 => (if t213 = true then (some (false, 0)) else (polygon_Apart.l0 k2 l0 a2 l0 (l0.length : Int) (wrap64 (x34_2 + 1)) a1_0 a1_1))) else (none)) else (none)) = some (r1, r2) := by first | (rw [hji25] at H; exact H) | (simp only [hji25] at H ⊢; exact H)
                     by_cases c26 : 0 ≤ (ji25)
                     · rw [if_pos c26] at H; have c26b0 : decide (0 ≤ (ji25)) = true := decide_eq_true c26; clear c26
                       by_cases c27 : (ji25) < (l0.length : Int)
                       · rw [if_pos c27] at H; have c27b0 : decide ((ji25) < (l0.length : Int)) = true := decide_eq_true c27; clear c27; replace H := Option.bind_eq_some_iff.mp H; obtain ⟨t213, A280, H⟩ := H; replace H : (if t213 = true then (some (false, 0)) else (polygon_Apart.l0 k2 l0 a2 l0 (l0.length : Int) (wrap64 (x34_2 + 1)) a1_0 a1_1)) = some (r1, r2) := H; have A28 := Aside0.mk A280; clear A280
                         by_cases c29 : t213 = true
                         · subst c29
                           have H1 : (some (false, 0)) = some (r1, r2) := by rw [if_pos rfl] at H; exact H
                           clear H; have H := H1; clear H1; simp only [Option.some.injEq, Prod.mk.injEq] at H; obtain ⟨rfl, rfl⟩ := H
                           have p210 : 0 ≤ (x34_2 : Int) := of_decide_eq_true (by first | (with_reducible assumption) | assumption)
                           have q210 : x34_2 < (l0.length : Int) := of_decide_eq_true (by first | (with_reducible assumption) | assumption)
                           obtain ⟨ad210, e210, hx210_0, hx210_1⟩ := at_T41 HR0.out x34_2 p210 q210; cases e210; replace hx210_0 := cl HB hx210_0; replace hx210_1 := cl HB hx210_1; replace p210 := eq_true p210; replace q210 := eq_true q210
                           try go_wp2_with (first | ((with_reducible refine gate_dst (N := 11) rfl ?_); refine box_s #[.int .i64 0, .int .i64 0] 41 ?_; intro gb211 hg wx650f1 hbox hb; have n0_ := kp BK206 hb; have n1_ := st HB hb; have n2_ := Aside0.mk (hbox); have n3_ := ge HB hg; have n4_ := ge HB hg; have n5_ := nl BK206 hg; have n6_ := nr BK206 hg; clear BK206; clear HB; have BK206 := n0_; have HB := n1_; have BK211 := n2_; have GW211 := n3_; have GE211 := n4_; have NB206_211 := n5_; have NB211_206 := n6_; clear n0_ n1_ n2_ n3_ n4_ n5_ n6_; clear hb hbox hg; have hnbx650f1 := NB211_206.out; have hncx650f1 := NB206_211.out; have hczx650f1 : wx650f1.cell? ⟨gb211, 0, none⟩ = some (.int .i64 0) := bc BK211 0; have hczx650f2 : wx650f1.cell? ⟨gb211, 1, none⟩ = some (.int .i64 0) := bc BK211 1; have hfzx650f1 := blk_frozen BK211.out 0; have hfzx650f2 := blk_frozen BK211.out 1))
                           have n0_ : Aside0 (((wx650f1.setCell ⟨gb211, 0, none⟩ (.int .i64 ((rd_T41 l0 x34_2).f0))).setCell ⟨gb211, 1, none⟩ (.int .i64 ((rd_T41 l0 x34_2).f1))).heap[gb206]? = some (.cells #[.int .i64 a1_0, .int .i64 a1_1] 41 (0, 0))) := ⟨by (with_reducible repeat (first | refine blk_drewN ?_ _ | refine blk_drew ?_ | refine blk_alloc ?_ _)); refine blk_far ?_ NB206_211.out _; (with_reducible repeat (first | refine blk_drewN ?_ _ | refine blk_drew ?_ | refine blk_alloc ?_ _)); refine blk_far ?_ NB206_211.out _; (with_reducible repeat (first | refine blk_drewN ?_ _ | refine blk_drew ?_ | refine blk_alloc ?_ _)); exact BK206.out⟩; have n1_ : Aside0 (((wx650f1.setCell ⟨gb211, 0, none⟩ (.int .i64 ((rd_T41 l0 x34_2).f0))).setCell ⟨gb211, 1, none⟩ (.int .i64 ((rd_T41 l0 x34_2).f1))).heap[gb211]? = some (.cells #[.int .i64 ((rd_T41 l0 x34_2).f0), .int .i64 ((rd_T41 l0 x34_2).f1)] 41 (0, 0))) := ⟨by (with_reducible repeat (first | refine blk_drewN ?_ _ | refine blk_drew ?_ | refine blk_alloc ?_ _)); refine blk_put (cs := #[.int .i64 ((rd_T41 l0 x34_2).f0), .int .i64 0]) ?_ 1 _ rfl; (with_reducible repeat (first | refine blk_drewN ?_ _ | refine blk_drew ?_ | refine blk_alloc ?_ _)); refine blk_put (cs := #[.int .i64 0, .int .i64 0]) ?_ 0 _ rfl; (with_reducible repeat (first | refine blk_drewN ?_ _ | refine blk_drew ?_ | refine blk_alloc ?_ _)); exact BK211.out⟩
                           have n2_ : Aside0 (Below w.heap.size w ((wx650f1.setCell ⟨gb211, 0, none⟩ (.int .i64 ((rd_T41 l0 x34_2).f0))).setCell ⟨gb211, 1, none⟩ (.int .i64 ((rd_T41 l0 x34_2).f1)))) := ⟨by repeat (first | (with_reducible first | exact HB.out | apply below_alloc | apply pw_below_drewN | apply below_drew1 | refine below_set ?_ GE206.out | refine below_set ?_ GE211.out) | exact HB.out)⟩
                           (try clear BK206)
                           (try clear BK211)
                           (try clear HB)
                           generalize ((wx650f1.setCell ⟨gb211, 0, none⟩ (.int .i64 ((rd_T41 l0 x34_2).f0))).setCell ⟨gb211, 1, none⟩ (.int .i64 ((rd_T41 l0 x34_2).f1))) = wze1 at n0_ n1_ n2_ ⊢; have BK206 := n0_; have BK211 := n1_; have HB := n2_; clear n0_ n1_ n2_; have n0_ := Aside0.mk (blk_drew BK206.out); have n1_ := Aside0.mk (blk_drew BK211.out); have n2_ := Aside0.mk (below_drew1 HB.out); clear BK206; clear BK211; clear HB; have BK206 := n0_; have BK211 := n1_; have HB := n2_; clear n0_ n1_ n2_
                           have p212 : 0 ≤ ((ji25) : Int) := of_decide_eq_true (by first | (with_reducible assumption) | assumption)
                           have q212 : (ji25) < (l0.length : Int) := of_decide_eq_true (by first | (with_reducible assumption) | assumption)
                           obtain ⟨ad212, e212, hx212_0, hx212_1⟩ := at_T41 HR0.out (ji25) p212 q212; have hw212_1 := hx212_1; have hw212_0 := hx212_0; obtain rfl : ad210 = ad212 := (by injection e212); replace hx212_0 := cl HB hx212_0; replace hx212_1 := cl HB hx212_1; replace p212 := eq_true p212; replace q212 := eq_true q212; refine start_ (n := 15) (S := fun w' => w'.cell? ⟨gb211, 0, none⟩ = some (.int .i64 ((rd_T41 l0 x34_2).f0)) ∧ w'.cell? ⟨gb211, 1, none⟩ = some (.int .i64 ((rd_T41 l0 x34_2).f1)) ∧ w'.cell? ⟨gb206, 0, none⟩ = some (.int .i64 a1_0) ∧ w'.cell? ⟨gb206, 1, none⟩ = some (.int .i64 a1_1) ∧ w'.cell? (ad210.add (((ji25)).toNat * 2)) = some (.int .i64 ((rd_T41 l0 (ji25)).f0)) ∧ w'.cell? ⟨(ad210.add (((ji25)).toNat * 2)).block, (ad210.add (((ji25)).toNat * 2)).off + 1, none⟩ = some (.int .i64 ((rd_T41 l0 (ji25)).f1))) (ds := []) #[false, false, false, false, false, false, false, false, false, false, false, false, false, false, false] (by kernel_rfl) rfl rfl ⟨bc BK211 0, bc BK211 1, bc BK206 0, bc BK206 1, (cl HB hw212_0), (cl HB hw212_1)⟩ (fun hHeld => ?_); refine with_tabW polygon_Apart.tab14 polygon_Apart.bits14 (fun HT_ HW_ => ?_); generalize wze1.drew = wze2 at BK206 BK211 HB hx212_0 hx212_1 hHeld ⊢; refine pu_ 0 39 HT_ (h := ?_); refine pu_ 1 40 HT_ (h := ?_); refine pu_ 2 41 HT_ (h := ?_); refine pu_ 3 42 HT_ (h := ?_); refine pu_ 4 43 HT_ (h := ?_); refine pu_ 5 44 HT_ (h := ?_); refine pu_ 6 45 HT_ (h := ?_); refine pu_ 7 46 HT_ (h := ?_); refine pu_ 8 47 HT_ (h := ?_); refine pu_ 9 48 HT_ (h := ?_); refine pu_ 13 52 HT_ (h := ?_); refine tk_ 10 49 HT_ HW_ hHeld (h := ?_); refine tk_ 11 50 HT_ HW_ hHeld (h := ?_); refine tk_ 12 51 HT_ HW_ hHeld (h := ?_); refine one_ (i := 14) (N := some 53) #[true, true, true, true, true, true, true, true, true, true, true, true, true, true, true] rfl rfl (one_of HT_.out (by kernel_rfl)) (by decide) (fun K hK => ?_)
                           refine goes_ Try.func55 (by kernel_rfl) rfl #[.agg #[.int .i64 ((rd_T41 l0 (ji25)).f0), .int .i64 ((rd_T41 l0 (ji25)).f1)], .agg #[.int .i64 ((rd_T41 l0 x34_2).f0), .int .i64 ((rd_T41 l0 x34_2).f1)], .agg #[.int .i64 a1_0, .int .i64 a1_1], .int .i64 a2] (by rfl) rfl rfl (by (try simp only [List.map_toArray, List.map_cons, List.map_nil]); first | done | (simp only [hji25]; rfl) | rfl | (simp only [List.length_drop, List.length_take]; rfl)) ?_
                           with_reducible refine (polygon_near.calls ((rd_T41 l0 (ji25)).f0) ((rd_T41 l0 (ji25)).f1) ((rd_T41 l0 x34_2).f0) ((rd_T41 l0 x34_2).f1) a1_0 a1_1 a2 true _ A28.out).mono ?_; rintro e wze3 ⟨rfl, hb⟩; refine ⟨_, rfl, ?_⟩; have n0_ := kp BK206 hb; have n1_ := kp BK211 hb; have n2_ := st HB hb; clear BK206; clear BK211; clear HB; have BK206 := n0_; have BK211 := n1_; have HB := n2_; clear n0_ n1_ n2_
                           (try clear hb)
                           (try clear hb2)
                           (try clear hk)
                           (try clear hi)
                           refine hK.out _ _ ⟨bc BK211 0, bc BK211 1, bc BK206 0, bc BK206 1, (cl HB hw212_0), (cl HB hw212_1)⟩ (fun hHeld => ?_); clear hK K; refine norm_ (a' := ?_) ?_ ?_; rotate_left
                           · show Act.put _ (some 53) _ = _; simp only [Act.put, List.setIfInBounds_toArray, List.set_cons_zero, List.set_cons_succ, i64_w, i32_w]; rfl
                           refine done_ (done_of HT_.out (by kernel_rfl)) ?_
                           try go_wp2
                           go_ret2
                           exact ⟨by first | rfl | (simp [errW_none, errW_some] <;> rfl) | (simp only [← hji25]; first | rfl | (simp [errW_none, errW_some] <;> rfl)) | (simp [*, errW_none, errW_some] <;> rfl), by repeat (first | (with_reducible first | exact HB.out | apply below_alloc | apply pw_below_drewN | apply below_drew1 | refine below_set ?_ GE206.out | refine below_set ?_ GE211.out) | exact HB.out)⟩
                         · replace c29 := Bool.eq_false_iff.mpr c29; subst c29
                           have H1 : (polygon_Apart.l0 k2 l0 a2 l0 (l0.length : Int) (wrap64 (x34_2 + 1)) a1_0 a1_1) = some (r1, r2) := by rw [if_neg (show ¬ (false = true) by decide)] at H; exact H
                           clear H; have H := H1; clear H1; have H' := Aside0.mk H; clear H
                           have p210 : 0 ≤ (x34_2 : Int) := of_decide_eq_true (by first | (with_reducible assumption) | assumption)
                           have q210 : x34_2 < (l0.length : Int) := of_decide_eq_true (by first | (with_reducible assumption) | assumption)
                           obtain ⟨ad210, e210, hx210_0, hx210_1⟩ := at_T41 HR0.out x34_2 p210 q210; cases e210; replace hx210_0 := cl HB hx210_0; replace hx210_1 := cl HB hx210_1; replace p210 := eq_true p210; replace q210 := eq_true q210
                           try go_wp2_with (first | ((with_reducible refine gate_dst (N := 11) rfl ?_); refine box_s #[.int .i64 0, .int .i64 0] 41 ?_; intro gb211 hg wx650f1 hbox hb; have n0_ := kp BK206 hb; have n1_ := st HB hb; have n2_ := Aside0.mk (hbox); have n3_ := ge HB hg; have n4_ := ge HB hg; have n5_ := nl BK206 hg; have n6_ := nr BK206 hg; clear BK206; clear HB; have BK206 := n0_; have HB := n1_; have BK211 := n2_; have GW211 := n3_; have GE211 := n4_; have NB206_211 := n5_; have NB211_206 := n6_; clear n0_ n1_ n2_ n3_ n4_ n5_ n6_; clear hb hbox hg; have hnbx650f1 := NB211_206.out; have hncx650f1 := NB206_211.out; have hczx650f1 : wx650f1.cell? ⟨gb211, 0, none⟩ = some (.int .i64 0) := bc BK211 0; have hczx650f2 : wx650f1.cell? ⟨gb211, 1, none⟩ = some (.int .i64 0) := bc BK211 1; have hfzx650f1 := blk_frozen BK211.out 0; have hfzx650f2 := blk_frozen BK211.out 1))
                           have n0_ : Aside0 (((wx650f1.setCell ⟨gb211, 0, none⟩ (.int .i64 ((rd_T41 l0 x34_2).f0))).setCell ⟨gb211, 1, none⟩ (.int .i64 ((rd_T41 l0 x34_2).f1))).heap[gb206]? = some (.cells #[.int .i64 a1_0, .int .i64 a1_1] 41 (0, 0))) := ⟨by (with_reducible repeat (first | refine blk_drewN ?_ _ | refine blk_drew ?_ | refine blk_alloc ?_ _)); refine blk_far ?_ NB206_211.out _; (with_reducible repeat (first | refine blk_drewN ?_ _ | refine blk_drew ?_ | refine blk_alloc ?_ _)); refine blk_far ?_ NB206_211.out _; (with_reducible repeat (first | refine blk_drewN ?_ _ | refine blk_drew ?_ | refine blk_alloc ?_ _)); exact BK206.out⟩; have n1_ : Aside0 (((wx650f1.setCell ⟨gb211, 0, none⟩ (.int .i64 ((rd_T41 l0 x34_2).f0))).setCell ⟨gb211, 1, none⟩ (.int .i64 ((rd_T41 l0 x34_2).f1))).heap[gb211]? = some (.cells #[.int .i64 ((rd_T41 l0 x34_2).f0), .int .i64 ((rd_T41 l0 x34_2).f1)] 41 (0, 0))) := ⟨by (with_reducible repeat (first | refine blk_drewN ?_ _ | refine blk_drew ?_ | refine blk_alloc ?_ _)); refine blk_put (cs := #[.int .i64 ((rd_T41 l0 x34_2).f0), .int .i64 0]) ?_ 1 _ rfl; (with_reducible repeat (first | refine blk_drewN ?_ _ | refine blk_drew ?_ | refine blk_alloc ?_ _)); refine blk_put (cs := #[.int .i64 0, .int .i64 0]) ?_ 0 _ rfl; (with_reducible repeat (first | refine blk_drewN ?_ _ | refine blk_drew ?_ | refine blk_alloc ?_ _)); exact BK211.out⟩
                           have n2_ : Aside0 (Below w.heap.size w ((wx650f1.setCell ⟨gb211, 0, none⟩ (.int .i64 ((rd_T41 l0 x34_2).f0))).setCell ⟨gb211, 1, none⟩ (.int .i64 ((rd_T41 l0 x34_2).f1)))) := ⟨by repeat (first | (with_reducible first | exact HB.out | apply below_alloc | apply pw_below_drewN | apply below_drew1 | refine below_set ?_ GE206.out | refine below_set ?_ GE211.out) | exact HB.out)⟩
                           (try clear BK206)
                           (try clear BK211)
                           (try clear HB)
                           generalize ((wx650f1.setCell ⟨gb211, 0, none⟩ (.int .i64 ((rd_T41 l0 x34_2).f0))).setCell ⟨gb211, 1, none⟩ (.int .i64 ((rd_T41 l0 x34_2).f1))) = wze1 at n0_ n1_ n2_ ⊢; have BK206 := n0_; have BK211 := n1_; have HB := n2_; clear n0_ n1_ n2_; have n0_ := Aside0.mk (blk_drew BK206.out); have n1_ := Aside0.mk (blk_drew BK211.out); have n2_ := Aside0.mk (below_drew1 HB.out); clear BK206; clear BK211; clear HB; have BK206 := n0_; have BK211 := n1_; have HB := n2_; clear n0_ n1_ n2_
                           have p212 : 0 ≤ ((ji25) : Int) := of_decide_eq_true (by first | (with_reducible assumption) | assumption)
                           have q212 : (ji25) < (l0.length : Int) := of_decide_eq_true (by first | (with_reducible assumption) | assumption)
                           obtain ⟨ad212, e212, hx212_0, hx212_1⟩ := at_T41 HR0.out (ji25) p212 q212; have hw212_1 := hx212_1; have hw212_0 := hx212_0; obtain rfl : ad210 = ad212 := (by injection e212); replace hx212_0 := cl HB hx212_0; replace hx212_1 := cl HB hx212_1; replace p212 := eq_true p212; replace q212 := eq_true q212; refine start_ (n := 15) (S := fun w' => w'.cell? ⟨gb211, 0, none⟩ = some (.int .i64 ((rd_T41 l0 x34_2).f0)) ∧ w'.cell? ⟨gb211, 1, none⟩ = some (.int .i64 ((rd_T41 l0 x34_2).f1)) ∧ w'.cell? ⟨gb206, 0, none⟩ = some (.int .i64 a1_0) ∧ w'.cell? ⟨gb206, 1, none⟩ = some (.int .i64 a1_1) ∧ w'.cell? (ad210.add (((ji25)).toNat * 2)) = some (.int .i64 ((rd_T41 l0 (ji25)).f0)) ∧ w'.cell? ⟨(ad210.add (((ji25)).toNat * 2)).block, (ad210.add (((ji25)).toNat * 2)).off + 1, none⟩ = some (.int .i64 ((rd_T41 l0 (ji25)).f1))) (ds := []) #[false, false, false, false, false, false, false, false, false, false, false, false, false, false, false] (by kernel_rfl) rfl rfl ⟨bc BK211 0, bc BK211 1, bc BK206 0, bc BK206 1, (cl HB hw212_0), (cl HB hw212_1)⟩ (fun hHeld => ?_); refine with_tabW polygon_Apart.tab14 polygon_Apart.bits14 (fun HT_ HW_ => ?_); generalize wze1.drew = wze2 at BK206 BK211 HB hx212_0 hx212_1 hHeld ⊢; refine pu_ 0 39 HT_ (h := ?_); refine pu_ 1 40 HT_ (h := ?_); refine pu_ 2 41 HT_ (h := ?_); refine pu_ 3 42 HT_ (h := ?_); refine pu_ 4 43 HT_ (h := ?_); refine pu_ 5 44 HT_ (h := ?_); refine pu_ 6 45 HT_ (h := ?_); refine pu_ 7 46 HT_ (h := ?_); refine pu_ 8 47 HT_ (h := ?_); refine pu_ 9 48 HT_ (h := ?_); refine pu_ 13 52 HT_ (h := ?_); refine tk_ 10 49 HT_ HW_ hHeld (h := ?_); refine tk_ 11 50 HT_ HW_ hHeld (h := ?_); refine tk_ 12 51 HT_ HW_ hHeld (h := ?_); refine one_ (i := 14) (N := some 53) #[true, true, true, true, true, true, true, true, true, true, true, true, true, true, true] rfl rfl (one_of HT_.out (by kernel_rfl)) (by decide) (fun K hK => ?_)
                           refine goes_ Try.func55 (by kernel_rfl) rfl #[.agg #[.int .i64 ((rd_T41 l0 (ji25)).f0), .int .i64 ((rd_T41 l0 (ji25)).f1)], .agg #[.int .i64 ((rd_T41 l0 x34_2).f0), .int .i64 ((rd_T41 l0 x34_2).f1)], .agg #[.int .i64 a1_0, .int .i64 a1_1], .int .i64 a2] (by rfl) rfl rfl (by (try simp only [List.map_toArray, List.map_cons, List.map_nil]); first | done | (simp only [hji25]; rfl) | rfl | (simp only [List.length_drop, List.length_take]; rfl)) ?_
                           with_reducible refine (polygon_near.calls ((rd_T41 l0 (ji25)).f0) ((rd_T41 l0 (ji25)).f1) ((rd_T41 l0 x34_2).f0) ((rd_T41 l0 x34_2).f1) a1_0 a1_1 a2 false _ A28.out).mono ?_; rintro e wze3 ⟨rfl, hb⟩; refine ⟨_, rfl, ?_⟩; have n0_ := kp BK206 hb; have n1_ := kp BK211 hb; have n2_ := st HB hb; clear BK206; clear BK211; clear HB; have BK206 := n0_; have BK211 := n1_; have HB := n2_; clear n0_ n1_ n2_
                           (try clear hb)
                           (try clear hb2)
                           (try clear hk)
                           (try clear hi)
                           refine hK.out _ _ ⟨bc BK211 0, bc BK211 1, bc BK206 0, bc BK206 1, (cl HB hw212_0), (cl HB hw212_1)⟩ (fun hHeld => ?_); clear hK K; refine norm_ (a' := ?_) ?_ ?_; rotate_left
                           · show Act.put _ (some 53) _ = _; simp only [Act.put, List.setIfInBounds_toArray, List.set_cons_zero, List.set_cons_succ, i64_w, i32_w]; rfl
                           refine done_ (done_of HT_.out (by kernel_rfl)) ?_
                           try go_wp2
                           first | go_roundg k2 | (subst hji25; go_roundg k2)
                           case measure => have := HJ7.out; have := HK2.out; omega
                           case rel => exact ⟨(wrap64 (x34_2 + 1)), (by first | rfl | (simp; done) | (simp [*]; done)), H', ⟨by have := HJ7.out; have := HK2.out; omega⟩, ⟨by (with_reducible repeat (first | refine blk_drewN ?_ _ | refine blk_drew ?_ | refine blk_alloc ?_ _)); exact BK206.out⟩, ⟨by repeat (first | (with_reducible first | exact HB.out | apply below_alloc | apply pw_below_drewN | apply below_drew1 | refine below_set ?_ GE206.out | refine below_set ?_ GE211.out) | exact HB.out)⟩⟩
                       · rw [if_neg c27] at H; exact absurd H (by simp)
                     · rw [if_neg c26] at H; exact absurd H (by simp)
                 · rw [if_neg c23] at H; exact absurd H (by simp)
               · rw [if_neg c22] at H; exact absurd H (by simp)
             · rw [if_neg c21] at H; have c21b0 : decide (x34_2 < (l0.length : Int)) = false := decide_eq_false c21; clear c21; simp only [Option.some.injEq, Prod.mk.injEq] at H; obtain ⟨rfl, rfl⟩ := H; go_wp2; go_ret2
               exact ⟨by first | rfl | (simp [errW_none, errW_some] <;> rfl) | (simp [*, errW_none, errW_some] <;> rfl), by repeat (first | (with_reducible first | exact HB.out | apply below_alloc | apply pw_below_drewN | apply below_drew1 | refine below_set ?_ GE206.out) | exact HB.out)⟩
   | clear hm1_1
     go_wp2_with (first | ((with_reducible refine gate_dst (N := 4) rfl ?_); refine box_s #[.int .i64 a1_0, .int .i64 a1_1] 41 ?_; intro gb206 hg wx82561 hbox hb; have n0_ := st HB hb; have n1_ := Aside0.mk (hbox); have n2_ := ge HB hg; have n3_ := ge HB hg; clear HB; have HB := n0_; have BK206 := n1_; have GW206 := n2_; have GE206 := n3_; clear n0_ n1_ n2_ n3_; clear hb hbox hg) | ((with_reducible refine gate_callee (f := 33) rfl ?_); refine goesL_ (some 13) rfl rfl Try.func33 (by kernel_rfl) rfl #[.slice A0 l0.length c0] rfl any_s ?_; (with_reducible refine (polygon_Check.calls k _ _ l0 t207 _ ?side1 ?side2 A4.out).mono ?_); (case side1 => exact cb_s (Kd.C_below HR0.out HB.out)); (case side2 => exact HC0.out); rintro e wxe2491 ⟨rfl, hb⟩; refine ⟨_, rfl, ?_⟩; have n0_ := kp BK206 hb; have n1_ := st HB hb; clear BK206; clear HB; have BK206 := n0_; have HB := n1_; clear n0_ n1_; (try clear hb); (try clear hb2); (try clear hk); (try clear hi); have hczxe2491 : wxe2491.cell? ⟨gb206, 0, none⟩ = some (.int .i64 a1_0) := bc BK206 0; have hczxe2492 : wxe2491.cell? ⟨gb206, 1, none⟩ = some (.int .i64 a1_1) := bc BK206 1; have hfzxe2491 := blk_frozen BK206.out 0; have hfzxe2492 := blk_frozen BK206.out 1) | ((with_reducible refine gate_callee (f := 33) rfl ?_); refine goesL_ (some 13) rfl rfl Try.func33 (by kernel_rfl) rfl #[.slice A0 l0.length c0] rfl any_s ?_; (with_reducible refine (polygon_Check.calls k _ _ l0 t207 _ ?side1 ?side2 A4.out).mono ?_); (case side1 => exact cb_s (Kd.C_below HR0.out HB.out)); (case side2 => exact HC0.out); rintro e wx66601 ⟨rfl, hb⟩; refine ⟨_, rfl, ?_⟩; have n0_ := kp BK206 hb; have n1_ := st HB hb; clear BK206; clear HB; have BK206 := n0_; have HB := n1_; clear n0_ n1_; (try clear hb); (try clear hb2); (try clear hk); (try clear hi)) | ((with_reducible refine gate_callee (f := 37) rfl ?_); refine goesL_ (some 18) rfl rfl Try.func37 (by kernel_rfl) rfl #[.agg #[.int .i64 a1_0, .int .i64 a1_1]] rfl any_s ?_; (with_reducible refine (plane_Check.calls a1_0 a1_1 t208 _ A6.out).mono ?_); rintro e wx0f8a1 ⟨rfl, hb⟩; refine ⟨_, rfl, ?_⟩; have n0_ := kp BK206 hb; have n1_ := st HB hb; clear BK206; clear HB; have BK206 := n0_; have HB := n1_; clear n0_ n1_; (try clear hb); (try clear hb2); (try clear hk); (try clear hi)))
     go_ret2
     exact ⟨by first | rfl | (simp [errW_none, errW_some] <;> rfl) | (simp [*, errW_none, errW_some] <;> rfl), by repeat (first | (with_reducible first | exact HB.out | apply below_alloc | apply pw_below_drewN | apply below_drew1 | refine below_set ?_ GE206.out) | exact HB.out)⟩

/-! ### skywaykeep1_polygonWorks: function 15 -/
def skywaykeep1_polygonWorks.f (k : Nat)  : Option (Bool) := (some (([(⟨0, 0⟩ : S41), (⟨4, 0⟩ : S41), (⟨4, 4⟩ : S41), (⟨0, 4⟩ : S41)] : List (S41)) : List (S41))).bind fun y214 => ((polygon_Apart.f k y214 7 8 4).bind fun bt217 => ((polygon_Apart.f k y214 7 8 5).bind fun bt219 => (if bt217.2 = 0 then (if bt217.1 = true then (if bt219.2 = 0 then (some (!bt219.1)) else (some false)) else (some false)) else (some false))))
theorem skywaykeep1_polygonWorks.mono : ∀ k, LeO (skywaykeep1_polygonWorks.f k ) (skywaykeep1_polygonWorks.f (k + 1) ) := by
  intro  k; unfold skywaykeep1_polygonWorks.f
  repeat' first
      | (with_reducible exact polygon_Apart.mono _ _ _ _ _)
      | (with_reducible exact LeO.refl _)
      | (with_reducible exact LeO.none _)
      | (with_reducible refine LeO.ite ?_ ?_)
      | (with_reducible refine LeO.bind ?_ (fun _ => ?_))
      | exact polygon_Apart.mono _ _ _ _ _
      | exact LeO.none _
      | refine LeO.ite ?_ ?_
      | refine LeO.bind ?_ (fun _ => ?_)
set_option maxHeartbeats 8000000 in
set_option maxRecDepth 100000 in
theorem skywaykeep1_polygonWorks.calls (k : Nat)  (r : Bool) (w : World) (h : skywaykeep1_polygonWorks.f k  = some r) :
    Calls Try.prog 15 #[] w fun e w' => e = .returned (.bool r) ∧ Below w.heap.size w w' := by
 have hu41 := Try.underlying41; have HB := Aside0.mk (Below.refl w.heap.size w); have H : ((some (([(⟨0, 0⟩ : S41), (⟨4, 0⟩ : S41), (⟨4, 4⟩ : S41), (⟨0, 4⟩ : S41)] : List (S41)) : List (S41))).bind fun y214 => ((polygon_Apart.f k y214 7 8 4).bind fun bt217 => ((polygon_Apart.f k y214 7 8 5).bind fun bt219 => (if bt217.2 = 0 then (if bt217.1 = true then (if bt219.2 = 0 then (some (!bt219.1)) else (some false)) else (some false)) else (some false))))) = some r := h; clear h; obtain ⟨y214, hy214⟩ : ∃ y_ : List (S41), y_ = (([(⟨0, 0⟩ : S41), (⟨4, 0⟩ : S41), (⟨4, 4⟩ : S41), (⟨0, 4⟩ : S41)] : List (S41))) := ⟨_, rfl⟩
 replace H : ((polygon_Apart.f k y214 7 8 4).bind fun bt217 => ((polygon_Apart.f k y214 7 8 5).bind fun bt219 => (if bt217.2 = 0 then (if bt217.1 = true then (if bt219.2 = 0 then (some (!bt219.1)) else (some false)) else (some false)) else (some false)))) = some r := by first | (rw [hy214]; with_reducible exact H) | (have H2_ := (Option.bind_some _ _).symm.trans H; rw [hy214]; with_reducible exact H2_) | (have H2_ := (Option.bind_some _ _).symm.trans H; with_reducible exact H2_) | with_reducible exact H | (rw [hy214]; exact H) | exact H
 have Ny214 := Aside0.mk hy214; clear hy214; replace H := Option.bind_eq_some_iff.mp H; obtain ⟨⟨t217, t218⟩, A10, H⟩ := H; replace H : ((polygon_Apart.f k y214 7 8 5).bind fun bt219 => (if t218 = 0 then (if t217 = true then (if bt219.2 = 0 then (some (!bt219.1)) else (some false)) else (some false)) else (some false))) = some r := H; have A1 := Aside0.mk A10; clear A10; replace H := Option.bind_eq_some_iff.mp H; obtain ⟨⟨t219, t220⟩, A20, H⟩ := H; replace H : (if t218 = 0 then (if t217 = true then (if t220 = 0 then (some (!t219)) else (some false)) else (some false)) else (some false)) = some r := H; have A2 := Aside0.mk A20; clear A20; refine Or.elim (Classical.em (t218 = 0)) (fun c3 => ?p2_) (fun c3 => ?n2_)
 case' p2_ =>
  rw [if_pos c3] at H; have c3b0 : (t218 == 0) = true := beq_iff_eq.mpr c3; have c3b1 : (t218 != 0) = false := bne_eq_false_iff_eq.mpr c3; clear c3; refine Or.elim (Classical.em (t217 = true)) (fun c4 => ?p3_) (fun c4 => ?n3_)
  case' p3_ =>
   subst c4
   have H1 : (if t220 = 0 then (some (!t219)) else (some false)) = some r := by rw [if_pos rfl] at H; exact H
   clear H; have H := H1; clear H1; refine Or.elim (Classical.em (t220 = 0)) (fun c5 => ?p4_) (fun c5 => ?n4_)
   case' p4_ =>
    rw [if_pos c5] at H; have c5b0 : (t220 == 0) = true := beq_iff_eq.mpr c5; have c5b1 : (t220 != 0) = false := bne_eq_false_iff_eq.mpr c5; clear c5
   case' n4_ =>
    rw [if_neg c5] at H; have c5b0 : (t220 == 0) = false := beq_eq_false_iff_ne.mpr c5; have c5b1 : (t220 != 0) = true := bne_iff_ne.mpr c5
  case' n3_ =>
   replace c4 := Bool.eq_false_iff.mpr c4; subst c4
   have H1 : (some false) = some r := by rw [if_neg (show ¬ (false = true) by decide)] at H; exact H
   clear H; have H := H1; clear H1
 case' n2_ =>
  rw [if_neg c3] at H; have c3b0 : (t218 == 0) = false := beq_eq_false_iff_ne.mpr c3; have c3b1 : (t218 != 0) = true := bne_iff_ne.mpr c3
 all_goals
  obtain rfl := Option.some.inj H; go_enter Try.func15, Try.ntmps15
  go_wp2_with (first | ((with_reducible refine gate_dst (N := 10) rfl ?_); refine Kd.R_lit k41 _ 41 ?hg (N := 10) ?hd (xs := ([(⟨0, 0⟩ : S41), (⟨4, 0⟩ : S41), (⟨4, 4⟩ : S41), (⟨0, 4⟩ : S41)] : List (S41))) (inner := [.int .i64 0, .int .i64 0, .int .i64 4, .int .i64 0, .int .i64 4, .int .i64 4, .int .i64 0, .int .i64 4]) (ok := fun _ => True) (okp := fun _ => True) ?hr ?hp (fun _ hk => hk) trivial (Below.refl _ _) (Nat.le_refl _) (by simp) ?_; (case hd => rfl); (case hg => rfl); (case hr => first | (go_simp; done) | (go_simp; rfl)); (case hp => exact (Reps.c2 (show Kd.M k41 _ _ _ (⟨0, 0⟩ : S41) [.int .i64 0, .int .i64 0] from (k41_mkM _ _ _ (⟨0, 0⟩ : S41) )) (Reps.c2 (show Kd.M k41 _ _ _ (⟨4, 0⟩ : S41) [.int .i64 4, .int .i64 0] from (k41_mkM _ _ _ (⟨4, 0⟩ : S41) )) (Reps.c2 (show Kd.M k41 _ _ _ (⟨4, 4⟩ : S41) [.int .i64 4, .int .i64 4] from (k41_mkM _ _ _ (⟨4, 4⟩ : S41) )) (Reps.c2 (show Kd.M k41 _ _ _ (⟨0, 4⟩ : S41) [.int .i64 0, .int .i64 4] from (k41_mkM _ _ _ (⟨0, 4⟩ : S41) )) (Reps.none _ _)))))); intro v215 wxe0d41 hoxe0d41 hb hg_ hnew_; clear hg_ hnew_; (first | rw [← Ny214.out] at hoxe0d41 | (simp only [Int.reduceToNat] at hoxe0d41; rw [← Ny214.out] at hoxe0d41)); have n0_ := Aside0.mk (Kd.R_lower hoxe0d41 bz_s); have n1_ := st HB hb; clear HB; have HO216 := n0_; have HB := n1_; clear n0_ n1_; clear hb hoxe0d41; obtain ⟨Aoxe0d41, coxe0d41, eoxe0d41⟩ := Kd.R_slice HO216.out; subst eoxe0d41) | ((with_reducible refine gate_callee (f := 32) rfl ?_); refine goesL_ (some 14) rfl rfl Try.func32 (by kernel_rfl) rfl #[.slice Aoxe0d41 y214.length coxe0d41, .agg #[.int .i64 7, .int .i64 8], .int .i64 4] rfl any_s ?_; (with_reducible refine (polygon_Apart.calls k _ _ y214 7 8 4 false t218 _ ?side1 ?side2 A1.out).mono ?_); (case side1 => repeat (first | exact (Kd.R_reads' HO216.out).2.2 | (with_reducible refine Kd.C_alloc ?_ _) | (with_reducible refine Kd.C_drewN ?_ _) | (with_reducible refine Kd.C_drew ?_))); (case side2 => exact (Kd.R_reads' HO216.out).2.1); rintro e wx65bd1 ⟨rfl, hb⟩; refine ⟨_, rfl, ?_⟩; have n0_ := Aside0.mk (Kd.R_below (by (with_reducible repeat (first | apply Kd.R_alloc | apply Kd.R_drewN | apply Kd.R_drew)); exact HO216.out) hb); have n1_ := st HB hb; clear HO216; clear HB; have HO216 := n0_; have HB := n1_; clear n0_ n1_; (try clear hb); (try clear hb2); (try clear hk); (try clear hi)) | ((with_reducible refine gate_callee (f := 32) rfl ?_); refine goesL_ (some 14) rfl rfl Try.func32 (by kernel_rfl) rfl #[.slice Aoxe0d41 y214.length coxe0d41, .agg #[.int .i64 7, .int .i64 8], .int .i64 4] rfl any_s ?_; (with_reducible refine (polygon_Apart.calls k _ _ y214 7 8 4 true t218 _ ?side1 ?side2 A1.out).mono ?_); (case side1 => repeat (first | exact (Kd.R_reads' HO216.out).2.2 | (with_reducible refine Kd.C_alloc ?_ _) | (with_reducible refine Kd.C_drewN ?_ _) | (with_reducible refine Kd.C_drew ?_))); (case side2 => exact (Kd.R_reads' HO216.out).2.1); rintro e wxf4b41 ⟨rfl, hb⟩; refine ⟨_, rfl, ?_⟩; have n0_ := Aside0.mk (Kd.R_below (by (with_reducible repeat (first | apply Kd.R_alloc | apply Kd.R_drewN | apply Kd.R_drew)); exact HO216.out) hb); have n1_ := st HB hb; clear HO216; clear HB; have HO216 := n0_; have HB := n1_; clear n0_ n1_; (try clear hb); (try clear hb2); (try clear hk); (try clear hi)) | ((with_reducible refine gate_callee (f := 32) rfl ?_); refine goesL_ (some 14) rfl rfl Try.func32 (by kernel_rfl) rfl #[.slice Aoxe0d41 y214.length coxe0d41, .agg #[.int .i64 7, .int .i64 8], .int .i64 4] rfl any_s ?_; (with_reducible refine (polygon_Apart.calls k _ _ y214 7 8 4 t217 t218 _ ?side1 ?side2 A1.out).mono ?_); (case side1 => repeat (first | exact (Kd.R_reads' HO216.out).2.2 | (with_reducible refine Kd.C_alloc ?_ _) | (with_reducible refine Kd.C_drewN ?_ _) | (with_reducible refine Kd.C_drew ?_))); (case side2 => exact (Kd.R_reads' HO216.out).2.1); rintro e wx268d1 ⟨rfl, hb⟩; refine ⟨_, rfl, ?_⟩; have n0_ := Aside0.mk (Kd.R_below (by (with_reducible repeat (first | apply Kd.R_alloc | apply Kd.R_drewN | apply Kd.R_drew)); exact HO216.out) hb); have n1_ := st HB hb; clear HO216; clear HB; have HO216 := n0_; have HB := n1_; clear n0_ n1_; (try clear hb); (try clear hb2); (try clear hk); (try clear hi)) | ((with_reducible refine gate_callee (f := 32) rfl ?_); refine goesL_ (some 20) rfl rfl Try.func32 (by kernel_rfl) rfl #[.slice Aoxe0d41 y214.length coxe0d41, .agg #[.int .i64 7, .int .i64 8], .int .i64 5] rfl any_s ?_; (with_reducible refine (polygon_Apart.calls k _ _ y214 7 8 5 t219 t220 _ ?side1 ?side2 A2.out).mono ?_); (case side1 => repeat (first | exact (Kd.R_reads' HO216.out).2.2 | (with_reducible refine Kd.C_alloc ?_ _) | (with_reducible refine Kd.C_drewN ?_ _) | (with_reducible refine Kd.C_drew ?_))); (case side2 => exact (Kd.R_reads' HO216.out).2.1); rintro e wx12d41 ⟨rfl, hb⟩; refine ⟨_, rfl, ?_⟩; have n0_ := Aside0.mk (Kd.R_below (by (with_reducible repeat (first | apply Kd.R_alloc | apply Kd.R_drewN | apply Kd.R_drew)); exact HO216.out) hb); have n1_ := st HB hb; clear HO216; clear HB; have HO216 := n0_; have HB := n1_; clear n0_ n1_; (try clear hb); (try clear hb2); (try clear hk); (try clear hi)))
  go_ret
  exact ⟨by first | rfl | (simp [errW_none, errW_some] <;> rfl) | (simp [*, errW_none, errW_some] <;> rfl), by repeat (first | (with_reducible first | exact HB.out | apply below_alloc | apply pw_below_drewN | apply below_drew1) | exact HB.out)⟩

end Go.Proofs.Ythghilclgobpbaa.PPolygonOverlap
