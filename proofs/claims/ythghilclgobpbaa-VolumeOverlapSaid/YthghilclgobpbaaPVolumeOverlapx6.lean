/- Made by a program of this session (wip/tools/myprint.py, over the kit's printer): that the Go functions answer as the Lean functions printed beside them. -/
import Derived.Test.YthghilclgobpbaaTSq2
import Derived.Test.YthghilclgobpbaaPVolumeOverlapx0
import Derived.Test.YthghilclgobpbaaPVolumeOverlapx3
import Derived.Test.YthghilclgobpbaaPVolumeOverlapx4
import Derived.Test.YthghilclgobpbaaPVolumeOverlapx5
namespace Go.Proofs.Ythghilclgobpbaa.PVolumeOverlap
open Go.RowKit Go.Proofs.YthghilclgobpbaaW.PrintWords Go.Proofs.YthghilclgobpbaaW.PrintLast Go.Proofs.YthghilclgobpbaaW.PrintMore
attribute [local go_sem] max2_int min2_int max_two min_two max_three min_three max_four min_four   -- for this text's walks alone
set_option linter.unusedVariables false
set_option linter.unusedSimpArgs false

/-! ### polygon_Check: function 33 -/
mutual
def polygon_Check.l0 : Nat → List (S41) → List (S41) → Int → Int → Option (Int)
  | 0, _, _, _, _ => none
  | k + 1, x0, x17, x18, x19 => if x19 < x18 then (if 0 ≤ x19 then (if x19 < (x17.length : Int) then ((plane_Check.f ((rd_T41 x17 x19).f0) ((rd_T41 x17 x19).f1)).bind fun t154 => (if t154 = 0 then (polygon_Check.l0 k x0 x17 x18 (wrap64 (x19 + 1))) else (some t154))) else (none)) else (none)) else (polygon_Check.l1 k x0 (x0.length : Int) (x0.length : Int) 0)
def polygon_Check.l1 : Nat → List (S41) → Int → Int → Int → Option (Int)
  | 0, _, _, _, _ => none
  | k + 1, x0, x6, x32, x33 => if x33 < x32 then (if 0 ≤ x33 then (if x33 < (x0.length : Int) then (if x6 = 0 then (none) else (if 0 ≤ (Int.tmod (wrap64 (x33 + 1)) x6) then (if (Int.tmod (wrap64 (x33 + 1)) x6) < (x0.length : Int) then (if 0 ≤ (Int.tmod (wrap64 (x33 + 2)) x6) then (if (Int.tmod (wrap64 (x33 + 2)) x6) < (x0.length : Int) then ((plane_Turn.f ((rd_T41 x0 x33).f0) ((rd_T41 x0 x33).f1) ((rd_T41 x0 (Int.tmod (wrap64 (x33 + 1)) x6)).f0) ((rd_T41 x0 (Int.tmod (wrap64 (x33 + 1)) x6)).f1) ((rd_T41 x0 (Int.tmod (wrap64 (x33 + 2)) x6)).f0) ((rd_T41 x0 (Int.tmod (wrap64 (x33 + 2)) x6)).f1)).bind fun t159 => (if t159 = 0 then (some 3) else (polygon_Check.l2 k x0 x6 x33 (wrap64 (x33 + 2)) x32 x33))) else (none)) else (none)) else (none)) else (none))) else (none)) else (none)) else ((polygon_double.f k x0).bind fun t155 => (if t155 ≤ 0 then (some 3) else (some 0)))
def polygon_Check.l2 : Nat → List (S41) → Int → Int → Int → Int → Int → Option (Int)
  | 0, _, _, _, _, _, _ => none
  | k + 1, x0, x6, x7, x8, x32, x33 => if x8 < x6 then (if x6 = 0 then (none) else (if (Int.tmod (wrap64 (x8 + 1)) x6) = x7 then (polygon_Check.l2 k x0 x6 x7 (wrap64 (x8 + 1)) x32 x33) else (if 0 ≤ x7 then (if x7 < (x0.length : Int) then (if 0 ≤ (wrap64 (x7 + 1)) then (if (wrap64 (x7 + 1)) < (x0.length : Int) then (if 0 ≤ x8 then (if x8 < (x0.length : Int) then (if 0 ≤ (Int.tmod (wrap64 (x8 + 1)) x6) then (if (Int.tmod (wrap64 (x8 + 1)) x6) < (x0.length : Int) then ((polygon_Common.f k ((rd_T41 x0 x7).f0) ((rd_T41 x0 x7).f1) ((rd_T41 x0 (wrap64 (x7 + 1))).f0) ((rd_T41 x0 (wrap64 (x7 + 1))).f1) ((rd_T41 x0 x8).f0) ((rd_T41 x0 x8).f1) ((rd_T41 x0 (Int.tmod (wrap64 (x8 + 1)) x6)).f0) ((rd_T41 x0 (Int.tmod (wrap64 (x8 + 1)) x6)).f1)).bind fun t164 => (if t164 = true then (some 3) else (polygon_Check.l2 k x0 x6 x7 (wrap64 (x8 + 1)) x32 x33))) else (none)) else (none)) else (none)) else (none)) else (none)) else (none)) else (none)) else (none)))) else (polygon_Check.l1 k x0 x6 x32 (wrap64 (x33 + 1)))
end
def polygon_Check.f (k : Nat) (l0 : List (S41)) : Option (Int) := if (l0.length : Int) > 16 then (some 2) else (if (l0.length : Int) < 3 then (some 3) else (polygon_Check.l0 k l0 l0 (l0.length : Int) 0))
theorem polygon_Check.mono_l : ∀ k, (∀ y0 y1 y2 y3, LeO (polygon_Check.l0 k y0 y1 y2 y3) (polygon_Check.l0 (k + 1) y0 y1 y2 y3)) ∧ (∀ y0 y1 y2 y3, LeO (polygon_Check.l1 k y0 y1 y2 y3) (polygon_Check.l1 (k + 1) y0 y1 y2 y3)) ∧ (∀ y0 y1 y2 y3 y4 y5, LeO (polygon_Check.l2 k y0 y1 y2 y3 y4 y5) (polygon_Check.l2 (k + 1) y0 y1 y2 y3 y4 y5))
  | 0 => ⟨fun _ _ _ _ r h => by simp [polygon_Check.l0] at h, fun _ _ _ _ r h => by simp [polygon_Check.l1] at h, fun _ _ _ _ _ _ r h => by simp [polygon_Check.l2] at h⟩
  | k + 1 => by
    obtain ⟨ih0, ih1, ih2⟩ := polygon_Check.mono_l k; refine ⟨?_, ?_, ?_⟩
    · intro y0 y1 y2 y3; unfold polygon_Check.l0
      repeat' first
      | (with_reducible exact ih0 _ _ _ _)
      | (with_reducible exact ih1 _ _ _ _)
      | (with_reducible exact ih2 _ _ _ _ _ _)
      | (with_reducible exact polygon_Common.mono _ _ _ _ _ _ _ _ _)
      | (with_reducible exact polygon_double.mono _ _)
      | (with_reducible exact LeO.refl _)
      | (with_reducible exact LeO.none _)
      | (with_reducible refine LeO.ite ?_ ?_)
      | (with_reducible refine LeO.bind ?_ (fun _ => ?_))
      | exact ih0 _ _ _ _
      | exact ih1 _ _ _ _
      | exact ih2 _ _ _ _ _ _
      | exact polygon_Common.mono _ _ _ _ _ _ _ _ _
      | exact polygon_double.mono _ _
      | exact LeO.none _
      | refine LeO.ite ?_ ?_
      | refine LeO.bind ?_ (fun _ => ?_)
    · intro y0 y1 y2 y3; unfold polygon_Check.l1
      repeat' first
      | (with_reducible exact ih0 _ _ _ _)
      | (with_reducible exact ih1 _ _ _ _)
      | (with_reducible exact ih2 _ _ _ _ _ _)
      | (with_reducible exact polygon_Common.mono _ _ _ _ _ _ _ _ _)
      | (with_reducible exact polygon_double.mono _ _)
      | (with_reducible exact LeO.refl _)
      | (with_reducible exact LeO.none _)
      | (with_reducible refine LeO.ite ?_ ?_)
      | (with_reducible refine LeO.bind ?_ (fun _ => ?_))
      | exact ih0 _ _ _ _
      | exact ih1 _ _ _ _
      | exact ih2 _ _ _ _ _ _
      | exact polygon_Common.mono _ _ _ _ _ _ _ _ _
      | exact polygon_double.mono _ _
      | exact LeO.none _
      | refine LeO.ite ?_ ?_
      | refine LeO.bind ?_ (fun _ => ?_)
    · intro y0 y1 y2 y3 y4 y5; unfold polygon_Check.l2
      repeat' first
      | (with_reducible exact ih0 _ _ _ _)
      | (with_reducible exact ih1 _ _ _ _)
      | (with_reducible exact ih2 _ _ _ _ _ _)
      | (with_reducible exact polygon_Common.mono _ _ _ _ _ _ _ _ _)
      | (with_reducible exact polygon_double.mono _ _)
      | (with_reducible exact LeO.refl _)
      | (with_reducible exact LeO.none _)
      | (with_reducible refine LeO.ite ?_ ?_)
      | (with_reducible refine LeO.bind ?_ (fun _ => ?_))
      | exact ih0 _ _ _ _
      | exact ih1 _ _ _ _
      | exact ih2 _ _ _ _ _ _
      | exact polygon_Common.mono _ _ _ _ _ _ _ _ _
      | exact polygon_double.mono _ _
      | exact LeO.none _
      | refine LeO.ite ?_ ?_
      | refine LeO.bind ?_ (fun _ => ?_)
theorem polygon_Check.mono : ∀ a0 k, LeO (polygon_Check.f k a0) (polygon_Check.f (k + 1) a0) := by
  intro a0 k; obtain ⟨ih0, ih1, ih2⟩ := polygon_Check.mono_l k; unfold polygon_Check.f
  repeat' first
      | (with_reducible exact ih0 _ _ _ _)
      | (with_reducible exact ih1 _ _ _ _)
      | (with_reducible exact ih2 _ _ _ _ _ _)
      | (with_reducible exact polygon_Common.mono _ _ _ _ _ _ _ _ _)
      | (with_reducible exact polygon_double.mono _ _)
      | (with_reducible exact LeO.refl _)
      | (with_reducible exact LeO.none _)
      | (with_reducible refine LeO.ite ?_ ?_)
      | (with_reducible refine LeO.bind ?_ (fun _ => ?_))
      | exact ih0 _ _ _ _
      | exact ih1 _ _ _ _
      | exact ih2 _ _ _ _ _ _
      | exact polygon_Common.mono _ _ _ _ _ _ _ _ _
      | exact polygon_double.mono _ _
      | exact LeO.none _
      | refine LeO.ite ?_ ?_
      | refine LeO.bind ?_ (fun _ => ?_)
def polygon_Check.T16 : Bool × List (List Nat × List Nat) := (true, [([], []), ([], []), ([0, 1], [0, 1]), ([2], [2]), ([], []), ([], []), ([5], [5]), ([], []), ([6, 7], [6, 7]), ([4, 8], [4, 8]), ([9], [9]), ([], []), ([], []), ([12], [12]), ([], []), ([13, 14], [13, 14]), ([11, 15], [11, 15]), ([16], [16]), ([3, 10, 17], [3, 10, 17]), ([18], [18])])
def polygon_Check.B16 : List Nat := [0, 0, 3, 7, 0, 0, 32, 0, 224, 496, 1008, 0, 0, 4096, 0, 28672, 63488, 129024, 262143, 524287]
theorem polygon_Check.tab16 : rtab .any (opsOf Try.f33 16) = polygon_Check.T16 := by kernel_rfl
theorem polygon_Check.bits16 : waitsOk polygon_Check.T16.2 polygon_Check.B16 = true := by kernel_rfl
def polygon_Check.T21 : Bool × List (List Nat × List Nat) := (true, [([], []), ([0], [0]), ([], []), ([1, 2], [1, 2]), ([], []), ([3, 4], [3, 4]), ([5], [5]), ([6], [6]), ([6], [6]), ([7, 8, 6], [6, 7, 8]), ([9, 6], [6, 9]), ([6], [6]), ([6], [6]), ([12, 6], [6, 12]), ([11, 13, 6], [6, 11, 13]), ([14, 6], [6, 14]), ([6], [6]), ([6], [6]), ([16, 17, 6], [6, 16, 17]), ([18, 6], [6, 18]), ([6], [6]), ([6], [6]), ([21, 6], [6, 21]), ([6], [6]), ([22, 23, 6], [6, 22, 23]), ([20, 24, 6], [6, 20, 24]), ([25, 6], [6, 25]), ([10, 15, 19, 26, 6, 6], [6, 10, 15, 19, 26]), ([6, 27], [6, 27])])
def polygon_Check.B21 : List Nat := [0, 1, 0, 7, 0, 31, 63, 127, 127, 511, 1023, 127, 127, 4223, 14463, 30847, 127, 127, 196735, 458879, 127, 127, 2097279, 127, 14680191, 32505983, 66060415, 134217727, 268435455]
theorem polygon_Check.tab21 : rtab .any (opsOf Try.f33 21) = polygon_Check.T21 := by kernel_rfl
theorem polygon_Check.bits21 : waitsOk polygon_Check.T21.2 polygon_Check.B21 = true := by kernel_rfl
set_option maxHeartbeats 8000000 in
set_option maxRecDepth 100000 in
theorem polygon_Check.calls (k : Nat) (A0 : Option Addr) (c0 : Nat) (l0 : List (S41)) (r : Int) (w : World) (hr0 : Kd.C k41 w A0 l0.length l0) (hc0 : l0.length ≤ c0) (h : polygon_Check.f k l0 = some r) :
    Calls Try.prog 33 #[.slice A0 l0.length c0] w fun e w' => e = .returned (.int .i64 r) ∧ Below w.heap.size w w' := by
 have hu41 := Try.underlying41; have HR0 := Aside0.mk hr0; have HC0 := Aside0.mk hc0; clear hr0 hc0; have HB := Aside0.mk (Below.refl w.heap.size w); have H : (if (l0.length : Int) > 16 then (some 2) else (if (l0.length : Int) < 3 then (some 3) else (polygon_Check.l0 k l0 l0 (l0.length : Int) 0))) = some r := h; clear h; refine Or.elim (Classical.em ((l0.length : Int) > 16)) (fun c2 => ?p2_) (fun c2 => ?n2_)
 case' p2_ =>
  rw [if_pos c2] at H; have c2b0 : decide (16 < (l0.length : Int)) = true := decide_eq_true c2; have c2b1 : decide (16 < l0.length) = true := decide_eq_true (by omega); clear c2; have hm1_0 := Aside0.mk trivial
 case' n2_ =>
  rw [if_neg c2] at H; have c2b0 : decide (16 < (l0.length : Int)) = false := decide_eq_false c2; have c2b1 : decide (16 < l0.length) = false := decide_eq_false (by omega); clear c2; refine Or.elim (Classical.em ((l0.length : Int) < 3)) (fun c3 => ?p3_) (fun c3 => ?n3_)
  case' p3_ =>
   rw [if_pos c3] at H; have c3b0 : decide ((l0.length : Int) < 3) = true := decide_eq_true c3; have c3b1 : decide (l0.length < 3) = true := decide_eq_true (by omega); clear c3; have hm1_0 := Aside0.mk trivial
  case' n3_ =>
   rw [if_neg c3] at H; have c3b0 : decide ((l0.length : Int) < 3) = false := decide_eq_false c3; have c3b1 : decide (l0.length < 3) = false := decide_eq_false (by omega); clear c3; have hm1_1 := Aside0.mk trivial
 all_goals
  first
   | clear hm1_0; obtain rfl := Option.some.inj H; go_enter Try.func33, Try.ntmps33; go_wp2; go_ret
     exact ⟨by first | rfl | (simp [errW_none, errW_some] <;> rfl) | (simp [*, errW_none, errW_some] <;> rfl), by repeat (first | (with_reducible first | exact HB.out | apply below_alloc | apply pw_below_drewN | apply below_drew1) | exact HB.out)⟩
   | clear hm1_1; have H' := Aside0.mk H; clear H; go_enter Try.func33, Try.ntmps33; go_wp2; go_loopg [19] k (fun kq v19 w' => ∃ (x19_1 : Int), v19 = .int .i64 x19_1 ∧ Aside0 (polygon_Check.l0 kq l0 l0 (l0.length : Int) x19_1 = some r) ∧ Aside0 (kq ≤ k) ∧ Aside0 (Below w.heap.size w w'))
     case atStart => exact ⟨(0), (by first | rfl | (simp; done) | (simp [*]; done)), H', ⟨Nat.le_refl _⟩, ⟨by repeat (first | (with_reducible first | exact HB.out | apply below_alloc | apply pw_below_drewN | apply below_drew1) | exact HB.out)⟩⟩
     case round =>
      clear H'
      (try clear c2); (try clear c2b0); (try clear c2b1); (try clear p2); (try clear c3); (try clear c3b0); (try clear c3b1)
      obtain ⟨x19_1, rfl, HA, HK1, HB⟩ := hrel
      cases gk with
      | zero => exact absurd HA.out (by simp [polygon_Check.l0])
      | succ k1 =>
       have H := HA.out; clear HA; simp only [polygon_Check.l0] at H; refine Or.elim (Classical.em (x19_1 < (l0.length : Int))) (fun c4 => ?p5_) (fun c4 => ?n5_)
       case' p5_ =>
        rw [if_pos c4] at H; have c4b0 : decide (x19_1 < (l0.length : Int)) = true := decide_eq_true c4; clear c4; refine Or.elim (Classical.em (0 ≤ x19_1)) (fun c5 => ?p6_) (fun c5 => ?n6_)
        case' p6_ =>
         rw [if_pos c5] at H; have c5b0 : decide (0 ≤ x19_1) = true := decide_eq_true c5; clear c5; refine Or.elim (Classical.em (x19_1 < (l0.length : Int))) (fun c6 => ?p7_) (fun c6 => ?n7_)
         case' p7_ =>
          rw [if_pos c6] at H; have c6b0 : decide (x19_1 < (l0.length : Int)) = true := decide_eq_true c6; clear c6; replace H := Option.bind_eq_some_iff.mp H; obtain ⟨t154, A70, H⟩ := H; replace H : (if t154 = 0 then (polygon_Check.l0 k1 l0 l0 (l0.length : Int) (wrap64 (x19_1 + 1))) else (some t154)) = some r := H; have A7 := Aside0.mk A70; clear A70; refine Or.elim (Classical.em (t154 = 0)) (fun c8 => ?p8_) (fun c8 => ?n8_)
          case' p8_ =>
           rw [if_pos c8] at H; have c8b0 : (t154 == 0) = true := beq_iff_eq.mpr c8; have c8b1 : (t154 != 0) = false := bne_eq_false_iff_eq.mpr c8; clear c8; have hm4_0 := Aside0.mk trivial
          case' n8_ =>
           rw [if_neg c8] at H; have c8b0 : (t154 == 0) = false := beq_eq_false_iff_ne.mpr c8; have c8b1 : (t154 != 0) = true := bne_iff_ne.mpr c8; have hm4_1 := Aside0.mk trivial
         case' n7_ =>
          rw [if_neg c6] at H; exact absurd H (by simp)
        case' n6_ =>
         rw [if_neg c5] at H; exact absurd H (by simp)
       case' n5_ =>
        rw [if_neg c4] at H; have c4b0 : decide (x19_1 < (l0.length : Int)) = false := decide_eq_false c4; clear c4; have hm4_2 := Aside0.mk trivial
       all_goals
        first
         | (first | (have _hm := hm4_0) | (have _hm := hm4_2))
           have H' := Aside0.mk H; clear H
           first
            | clear hm4_0
              have p152 : 0 ≤ (x19_1 : Int) := of_decide_eq_true (by first | (with_reducible assumption) | assumption)
              have q152 : x19_1 < (l0.length : Int) := of_decide_eq_true (by first | (with_reducible assumption) | assumption)
              obtain ⟨ad152, e152, hx152_0, hx152_1⟩ := at_T41 HR0.out x19_1 p152 q152; cases e152; replace hx152_0 := cl HB hx152_0; replace hx152_1 := cl HB hx152_1; replace p152 := eq_true p152; replace q152 := eq_true q152
              go_wp2_with (first | ((with_reducible refine gate_dst (N := 4) rfl ?_); refine box_s #[.int .i64 0, .int .i64 0] 41 ?_; intro gb153 hg wx0f3f1 hbox hb; have n0_ := st HB hb; have n1_ := Aside0.mk (hbox); have n2_ := ge HB hg; have n3_ := ge HB hg; clear HB; have HB := n0_; have BK153 := n1_; have GW153 := n2_; have GE153 := n3_; clear n0_ n1_ n2_ n3_; clear hb hbox hg; have hczx0f3f1 : wx0f3f1.cell? ⟨gb153, 0, none⟩ = some (.int .i64 0) := bc BK153 0; have hczx0f3f2 : wx0f3f1.cell? ⟨gb153, 1, none⟩ = some (.int .i64 0) := bc BK153 1; have hfzx0f3f1 := blk_frozen BK153.out 0; have hfzx0f3f2 := blk_frozen BK153.out 1) | ((with_reducible refine gate_callee (f := 37) rfl ?_); refine goesL_ (some 24) rfl rfl Try.func37 (by kernel_rfl) rfl #[.agg #[.int .i64 ((rd_T41 l0 x19_1).f0), .int .i64 ((rd_T41 l0 x19_1).f1)]] rfl any_s ?_; (with_reducible refine (plane_Check.calls ((rd_T41 l0 x19_1).f0) ((rd_T41 l0 x19_1).f1) t154 _ A7.out).mono ?_); rintro e wxe6911 ⟨rfl, hb⟩; refine ⟨_, rfl, ?_⟩; have n0_ := Aside0.mk (blk_below (g := gb153) (o := .cells #[.int .i64 ((rd_T41 l0 x19_1).f0), .int .i64 ((rd_T41 l0 x19_1).f1)] 41 (0, 0)) (by (with_reducible repeat (first | refine blk_drewN ?_ _ | refine blk_drew ?_ | refine blk_alloc ?_ _)); refine blk_put (cs := #[.int .i64 ((rd_T41 l0 x19_1).f0), .int .i64 0]) ?_ 1 _ rfl; (with_reducible repeat (first | refine blk_drewN ?_ _ | refine blk_drew ?_ | refine blk_alloc ?_ _)); refine blk_put (cs := #[.int .i64 0, .int .i64 0]) ?_ 0 _ rfl; (with_reducible repeat (first | refine blk_drewN ?_ _ | refine blk_drew ?_ | refine blk_alloc ?_ _)); exact BK153.out) hb); have n1_ := st HB hb; clear BK153; clear HB; have BK153 := n0_; have HB := n1_; clear n0_ n1_; (try clear hb); (try clear hb2); (try clear hk); (try clear hi)))
              go_roundg k1
              case measure => have := HK1.out; omega
              case rel => exact ⟨(wrap64 (x19_1 + 1)), (by first | rfl | (simp; done) | (simp [*]; done)), H', ⟨by have := HK1.out; omega⟩, ⟨by repeat (first | (with_reducible first | exact HB.out | apply below_alloc | apply pw_below_drewN | apply below_drew1 | refine below_set ?_ GE153.out) | exact HB.out)⟩⟩
            | clear hm4_2; go_wp2; go_loopg [33] k1 (fun kq v33 w' => ∃ (x33_2 : Int), v33 = .int .i64 x33_2 ∧ Aside0 (polygon_Check.l1 kq l0 (l0.length : Int) (l0.length : Int) x33_2 = some r) ∧ Aside0 (kq ≤ k1) ∧ Aside0 (Below w.heap.size w w'))
              case atStart => exact ⟨(0), (by first | rfl | (simp; done) | (simp [*]; done)), H', ⟨Nat.le_refl _⟩, ⟨by repeat (first | (with_reducible first | exact HB.out | apply below_alloc | apply pw_below_drewN | apply below_drew1) | exact HB.out)⟩⟩
              case round =>
               clear H'
               (try clear p1); (try clear q1); (try clear hx1); (try clear c2); (try clear c2b0); (try clear c2b1); (try clear p2); (try clear c3); (try clear c3b0); (try clear c3b1); (try clear c4); (try clear c4b0); (try clear c5); (try clear c5b0); (try clear c6); (try clear c6b0); (try clear p6); (try clear c8); (try clear c8b0); (try clear c8b1); (try clear hczzc1); (try clear hczzc2); (try clear hczzc1); (try clear hczzc2); (try clear hfzzc1); (try clear hfzzc2); (try clear hfzzc1); (try clear hfzzc2); (try clear hx152_0); (try clear hx152_1); (try clear p152); (try clear p2); (try clear q152)
               obtain ⟨x33_2, rfl, HA, HK2, HB⟩ := hrel
               cases gk with
               | zero => exact absurd HA.out (by simp [polygon_Check.l1])
               | succ k2 =>
                have H := HA.out; clear HA; simp only [polygon_Check.l1] at H; refine Or.elim (Classical.em (x33_2 < (l0.length : Int))) (fun c15 => ?p10_) (fun c15 => ?n10_)
                case' p10_ =>
                 rw [if_pos c15] at H; have c15b0 : decide (x33_2 < (l0.length : Int)) = true := decide_eq_true c15; clear c15; refine Or.elim (Classical.em (0 ≤ x33_2)) (fun c16 => ?p11_) (fun c16 => ?n11_)
                 case' p11_ =>
                  rw [if_pos c16] at H; have c16b0 : decide (0 ≤ x33_2) = true := decide_eq_true c16; clear c16; refine Or.elim (Classical.em (x33_2 < (l0.length : Int))) (fun c17 => ?p12_) (fun c17 => ?n12_)
                  case' p12_ =>
                   rw [if_pos c17] at H; have c17b0 : decide (x33_2 < (l0.length : Int)) = true := decide_eq_true c17; clear c17; refine Or.elim (Classical.em ((l0.length : Int) = 0)) (fun c18 => ?p13_) (fun c18 => ?n13_)
                   case' p13_ =>
                    rw [if_pos c18] at H; exact absurd H (by simp)
                   case' n13_ =>
                    rw [if_neg c18] at H; have c18b0 : ((l0.length : Int) == 0) = false := beq_eq_false_iff_ne.mpr c18; have c18b1 : ((l0.length : Int) != 0) = true := bne_iff_ne.mpr c18
                    have c18b2 : ¬ (l0 = []) := fun h_ => c18 (by rw [h_]; rfl)
                    obtain ⟨ji19, hji19⟩ : ∃ j_ : Int, (Int.tmod (wrap64 (x33_2 + 1)) (l0.length : Int)) = j_ := ⟨_, rfl⟩
                    replace H : (if 0 ≤ (ji19) then (if (ji19) < (l0.length : Int) then (if 0 ≤ (Int.tmod (wrap64 (x33_2 + 2)) (l0.length : Int)) then (if (Int.tmod (wrap64 (x33_2 + 2)) (l0.length : Int)) < (l0.length : Int) then ((plane_Turn.f ((rd_T41 l0 x33_2).f0) ((rd_T41 l0 x33_2).f1) ((rd_T41 l0 (ji19)).f0) ((rd_T41 l0 (ji19)).f1) ((rd_T41 l0 (Int.tmod (wrap64 (x33_2 + 2)) (l0.length : Int))).f0) ((rd_T41 l0 (Int.tmod (wrap64 (x33_2 + 2)) (l0.length : Int))).f1)).bind fun t159 => (if t159 = 0 then (some 3) else (polygon_Check.l2 k2 l0 (l0.length : Int) x33_2 (wrap64 (x33_2 + 2)) (l0.length : Int) x33_2))) else (none)) else (none)) else (none)) else (none)) = some r := by first | (rw [hji19] at H; exact H) | (simp only [hji19] at H ⊢; exact H)
                    refine Or.elim (Classical.em (0 ≤ (ji19))) (fun c20 => ?p14_) (fun c20 => ?n14_)
                    case' p14_ =>
                     rw [if_pos c20] at H; have c20b0 : decide (0 ≤ (ji19)) = true := decide_eq_true c20; clear c20; refine Or.elim (Classical.em ((ji19) < (l0.length : Int))) (fun c21 => ?p15_) (fun c21 => ?n15_)
                     case' p15_ =>
                      rw [if_pos c21] at H; have c21b0 : decide ((ji19) < (l0.length : Int)) = true := decide_eq_true c21; clear c21; obtain ⟨ji22, hji22⟩ : ∃ j_ : Int, (Int.tmod (wrap64 (x33_2 + 2)) (l0.length : Int)) = j_ := ⟨_, rfl⟩
                      replace H : (if 0 ≤ (ji22) then (if (ji22) < (l0.length : Int) then ((plane_Turn.f ((rd_T41 l0 x33_2).f0) ((rd_T41 l0 x33_2).f1) ((rd_T41 l0 (ji19)).f0) ((rd_T41 l0 (ji19)).f1) ((rd_T41 l0 (ji22)).f0) ((rd_T41 l0 (ji22)).f1)).bind fun t159 => (if t159 = 0 then (some 3) else (polygon_Check.l2 k2 l0 (l0.length : Int) x33_2 (wrap64 (x33_2 + 2)) (l0.length : Int) x33_2))) else (none)) else (none)) = some r := by first | (rw [hji22] at H; exact H) | (simp only [hji22] at H ⊢; exact H)
                      refine Or.elim (Classical.em (0 ≤ (ji22))) (fun c23 => ?p16_) (fun c23 => ?n16_)
                      case' p16_ =>
                       rw [if_pos c23] at H; have c23b0 : decide (0 ≤ (ji22)) = true := decide_eq_true c23; clear c23; refine Or.elim (Classical.em ((ji22) < (l0.length : Int))) (fun c24 => ?p17_) (fun c24 => ?n17_)
                       case' p17_ =>
                        rw [if_pos c24] at H; have c24b0 : decide ((ji22) < (l0.length : Int)) = true := decide_eq_true c24; clear c24; replace H := Option.bind_eq_some_iff.mp H; obtain ⟨t159, A250, H⟩ := H; replace H : (if t159 = 0 then (some 3) else (polygon_Check.l2 k2 l0 (l0.length : Int) x33_2 (wrap64 (x33_2 + 2)) (l0.length : Int) x33_2)) = some r := H; have A25 := Aside0.mk A250; clear A250; refine Or.elim (Classical.em (t159 = 0)) (fun c26 => ?p18_) (fun c26 => ?n18_)
                        case' p18_ =>
                         rw [if_pos c26] at H; have c26b0 : (t159 == 0) = true := beq_iff_eq.mpr c26; have c26b1 : (t159 != 0) = false := bne_eq_false_iff_eq.mpr c26; clear c26; have hm9_0 := Aside0.mk trivial
                        case' n18_ =>
                         rw [if_neg c26] at H; have c26b0 : (t159 == 0) = false := beq_eq_false_iff_ne.mpr c26; have c26b1 : (t159 != 0) = true := bne_iff_ne.mpr c26; have hm9_1 := Aside0.mk trivial
                       case' n17_ =>
                        rw [if_neg c24] at H; exact absurd H (by simp)
                      case' n16_ =>
                       rw [if_neg c23] at H; exact absurd H (by simp)
                     case' n15_ =>
                      rw [if_neg c21] at H; exact absurd H (by simp)
                    case' n14_ =>
                     rw [if_neg c20] at H; exact absurd H (by simp)
                  case' n12_ =>
                   rw [if_neg c17] at H; exact absurd H (by simp)
                 case' n11_ =>
                  rw [if_neg c16] at H; exact absurd H (by simp)
                case' n10_ =>
                 rw [if_neg c15] at H; have c15b0 : decide (x33_2 < (l0.length : Int)) = false := decide_eq_false c15; clear c15; replace H := Option.bind_eq_some_iff.mp H; obtain ⟨t155, A510, H⟩ := H; replace H : (if t155 ≤ 0 then (some 3) else (some 0)) = some r := H; have A51 := Aside0.mk A510; clear A510; refine Or.elim (Classical.em (t155 ≤ 0)) (fun c52 => ?p19_) (fun c52 => ?n19_)
                 case' p19_ =>
                  rw [if_pos c52] at H; have c52b0 : decide (t155 ≤ 0) = true := decide_eq_true c52; clear c52; have hm9_2 := Aside0.mk trivial
                 case' n19_ =>
                  rw [if_neg c52] at H; have c52b0 : decide (t155 ≤ 0) = false := decide_eq_false c52; clear c52; have hm9_2 := Aside0.mk trivial
                all_goals
                 first
                  | (first | (have _hm := hm9_0) | (have _hm := hm9_2))
                    obtain rfl := Option.some.inj H
                    first
                     | clear hm9_0
                       try go_wp2
                       have n0_ := Aside0.mk (below_drew1 HB.out); clear HB; have HB := n0_; clear n0_
                       have p156 : 0 ≤ (x33_2 : Int) := of_decide_eq_true (by first | (with_reducible assumption) | assumption)
                       have q156 : x33_2 < (l0.length : Int) := of_decide_eq_true (by first | (with_reducible assumption) | assumption)
                       obtain ⟨ad156, e156, hx156_0, hx156_1⟩ := at_T41 HR0.out x33_2 p156 q156; have hw156_1 := hx156_1; have hw156_0 := hx156_0; cases e156; replace hx156_0 := cl HB hx156_0; replace hx156_1 := cl HB hx156_1; replace p156 := eq_true p156; replace q156 := eq_true q156
                       have p157 : 0 ≤ ((ji19) : Int) := of_decide_eq_true (by first | (with_reducible assumption) | assumption)
                       have q157 : (ji19) < (l0.length : Int) := of_decide_eq_true (by first | (with_reducible assumption) | assumption)
                       obtain ⟨ad157, e157, hx157_0, hx157_1⟩ := at_T41 HR0.out (ji19) p157 q157; have hw157_1 := hx157_1; have hw157_0 := hx157_0; obtain rfl : ad156 = ad157 := (by injection e157); replace hx157_0 := cl HB hx157_0; replace hx157_1 := cl HB hx157_1; replace p157 := eq_true p157; replace q157 := eq_true q157
                       have p158 : 0 ≤ ((ji22) : Int) := of_decide_eq_true (by first | (with_reducible assumption) | assumption)
                       have q158 : (ji22) < (l0.length : Int) := of_decide_eq_true (by first | (with_reducible assumption) | assumption)
                       obtain ⟨ad158, e158, hx158_0, hx158_1⟩ := at_T41 HR0.out (ji22) p158 q158; have hw158_1 := hx158_1; have hw158_0 := hx158_0; obtain rfl : ad156 = ad158 := (by injection e158); replace hx158_0 := cl HB hx158_0; replace hx158_1 := cl HB hx158_1; replace p158 := eq_true p158; replace q158 := eq_true q158; refine start_ (n := 20) (S := fun w' => w'.cell? (ad156.add ((x33_2).toNat * 2)) = some (.int .i64 ((rd_T41 l0 x33_2).f0)) ∧ w'.cell? ⟨(ad156.add ((x33_2).toNat * 2)).block, (ad156.add ((x33_2).toNat * 2)).off + 1, none⟩ = some (.int .i64 ((rd_T41 l0 x33_2).f1)) ∧ w'.cell? (ad156.add (((ji19)).toNat * 2)) = some (.int .i64 ((rd_T41 l0 (ji19)).f0)) ∧ w'.cell? ⟨(ad156.add (((ji19)).toNat * 2)).block, (ad156.add (((ji19)).toNat * 2)).off + 1, none⟩ = some (.int .i64 ((rd_T41 l0 (ji19)).f1)) ∧ w'.cell? (ad156.add (((ji22)).toNat * 2)) = some (.int .i64 ((rd_T41 l0 (ji22)).f0)) ∧ w'.cell? ⟨(ad156.add (((ji22)).toNat * 2)).block, (ad156.add (((ji22)).toNat * 2)).off + 1, none⟩ = some (.int .i64 ((rd_T41 l0 (ji22)).f1))) (ds := []) #[false, false, false, false, false, false, false, false, false, false, false, false, false, false, false, false, false, false, false, false] (by kernel_rfl) rfl rfl ⟨(cl HB hw156_0), (cl HB hw156_1), (cl HB hw157_0), (cl HB hw157_1), (cl HB hw158_0), (cl HB hw158_1)⟩ (fun hHeld => ?_); refine with_tabW polygon_Check.tab16 polygon_Check.bits16 (fun HT_ HW_ => ?_); generalize wr.drew = wze1 at HB hx156_0 hx156_1 hx157_0 hx157_1 hx158_0 hx158_1 hHeld ⊢; refine pu_ 0 36 HT_ (h := ?_); refine pu_ 1 37 HT_ (h := ?_); refine pu_ 2 38 HT_ (h := ?_); refine pu_ 4 40 HT_ (h := ?_); refine pu_ 5 41 HT_ (h := ?_); refine pu_ 6 42 HT_ (h := ?_); refine pu_ 7 43 HT_ (h := ?_); refine pu_ 8 44 HT_ (h := ?_); refine pu_ 9 45 HT_ (h := ?_); refine pu_ 11 47 HT_ (h := ?_); refine pu_ 12 48 HT_ (h := ?_); refine pu_ 13 49 HT_ (h := ?_); refine pu_ 14 50 HT_ (h := ?_); refine pu_ 15 51 HT_ (h := ?_); refine pu_ 16 52 HT_ (h := ?_); refine tk_ 3 39 HT_ HW_ hHeld (h := ?_); refine tk_ 10 46 HT_ HW_ hHeld (h := ?_); refine tk_ 17 53 HT_ HW_ hHeld (h := ?_); refine one_ (i := 18) (N := some 54) #[true, true, true, true, true, true, true, true, true, true, true, true, true, true, true, true, true, true, true, false] rfl rfl (one_of HT_.out (by kernel_rfl)) (by decide) (fun K hK => ?_)
                       refine goes_ Try.func56 (by kernel_rfl) rfl #[.agg #[.int .i64 ((rd_T41 l0 x33_2).f0), .int .i64 ((rd_T41 l0 x33_2).f1)], .agg #[.int .i64 ((rd_T41 l0 (ji19)).f0), .int .i64 ((rd_T41 l0 (ji19)).f1)], .agg #[.int .i64 ((rd_T41 l0 (ji22)).f0), .int .i64 ((rd_T41 l0 (ji22)).f1)]] (by rfl) rfl rfl (by (try simp only [List.map_toArray, List.map_cons, List.map_nil]); first | done | (simp only [hji19, hji22]; rfl) | rfl | (simp only [List.length_drop, List.length_take]; rfl)) ?_
                       with_reducible refine (plane_Turn.calls ((rd_T41 l0 x33_2).f0) ((rd_T41 l0 x33_2).f1) ((rd_T41 l0 (ji19)).f0) ((rd_T41 l0 (ji19)).f1) ((rd_T41 l0 (ji22)).f0) ((rd_T41 l0 (ji22)).f1) t159 _ A25.out).mono ?_; rintro e wze2 ⟨rfl, hb⟩; refine ⟨_, rfl, ?_⟩; have n0_ := st HB hb; clear HB; have HB := n0_; clear n0_
                       (try clear hb)
                       (try clear hb2)
                       (try clear hk)
                       (try clear hi)
                       refine hK.out _ _ ⟨(cl HB hw156_0), (cl HB hw156_1), (cl HB hw157_0), (cl HB hw157_1), (cl HB hw158_0), (cl HB hw158_1)⟩ (fun hHeld => ?_); clear hK K; refine norm_ (a' := ?_) ?_ ?_; rotate_left
                       · show Act.put _ (some 54) _ = _; simp only [Act.put, List.setIfInBounds_toArray, List.set_cons_zero, List.set_cons_succ, i64_w, i32_w]; rfl
                       refine pu_ 19 55 HT_ (h := ?_); refine done_ (done_of HT_.out (by kernel_rfl)) ?_
                       try go_wp2
                       go_ret
                       exact ⟨by first | rfl | (simp [errW_none, errW_some] <;> rfl) | (simp only [← hji19, ← hji22]; first | rfl | (simp [errW_none, errW_some] <;> rfl)) | (simp [*, errW_none, errW_some] <;> rfl), by repeat (first | (with_reducible first | exact HB.out | apply below_alloc | apply pw_below_drewN | apply below_drew1) | exact HB.out)⟩
                     | clear hm9_2
                       go_wp2_with (first | ((with_reducible refine gate_callee (f := 58) rfl ?_); refine goesL_ (some 94) rfl rfl Try.func58 (by kernel_rfl) rfl #[.slice A0 l0.length c0] rfl any_s ?_; (with_reducible refine (polygon_double.calls k2 _ _ l0 t155 _ ?side1 ?side2 A51.out).mono ?_); (case side1 => exact cb_s (Kd.C_below HR0.out HB.out)); (case side2 => exact HC0.out); rintro e wxda361 ⟨rfl, hb⟩; refine ⟨_, rfl, ?_⟩; have n0_ := st HB hb; clear HB; have HB := n0_; clear n0_; (try clear hb); (try clear hb2); (try clear hk); (try clear hi)))
                       go_ret
                       exact ⟨by first | rfl | (simp [errW_none, errW_some] <;> rfl) | (simp [*, errW_none, errW_some] <;> rfl), by repeat (first | (with_reducible first | exact HB.out | apply below_alloc | apply pw_below_drewN | apply below_drew1) | exact HB.out)⟩
                  | clear hm9_1; have H' := Aside0.mk H; clear H
                    try go_wp2
                    have n0_ := Aside0.mk (below_drew1 HB.out); clear HB; have HB := n0_; clear n0_
                    have p156 : 0 ≤ (x33_2 : Int) := of_decide_eq_true (by first | (with_reducible assumption) | assumption)
                    have q156 : x33_2 < (l0.length : Int) := of_decide_eq_true (by first | (with_reducible assumption) | assumption)
                    obtain ⟨ad156, e156, hx156_0, hx156_1⟩ := at_T41 HR0.out x33_2 p156 q156; have hw156_1 := hx156_1; have hw156_0 := hx156_0; cases e156; replace hx156_0 := cl HB hx156_0; replace hx156_1 := cl HB hx156_1; replace p156 := eq_true p156; replace q156 := eq_true q156
                    have p157 : 0 ≤ ((ji19) : Int) := of_decide_eq_true (by first | (with_reducible assumption) | assumption)
                    have q157 : (ji19) < (l0.length : Int) := of_decide_eq_true (by first | (with_reducible assumption) | assumption)
                    obtain ⟨ad157, e157, hx157_0, hx157_1⟩ := at_T41 HR0.out (ji19) p157 q157; have hw157_1 := hx157_1; have hw157_0 := hx157_0; obtain rfl : ad156 = ad157 := (by injection e157); replace hx157_0 := cl HB hx157_0; replace hx157_1 := cl HB hx157_1; replace p157 := eq_true p157; replace q157 := eq_true q157
                    have p158 : 0 ≤ ((ji22) : Int) := of_decide_eq_true (by first | (with_reducible assumption) | assumption)
                    have q158 : (ji22) < (l0.length : Int) := of_decide_eq_true (by first | (with_reducible assumption) | assumption)
                    obtain ⟨ad158, e158, hx158_0, hx158_1⟩ := at_T41 HR0.out (ji22) p158 q158; have hw158_1 := hx158_1; have hw158_0 := hx158_0; obtain rfl : ad156 = ad158 := (by injection e158); replace hx158_0 := cl HB hx158_0; replace hx158_1 := cl HB hx158_1; replace p158 := eq_true p158; replace q158 := eq_true q158; refine start_ (n := 20) (S := fun w' => w'.cell? (ad156.add ((x33_2).toNat * 2)) = some (.int .i64 ((rd_T41 l0 x33_2).f0)) ∧ w'.cell? ⟨(ad156.add ((x33_2).toNat * 2)).block, (ad156.add ((x33_2).toNat * 2)).off + 1, none⟩ = some (.int .i64 ((rd_T41 l0 x33_2).f1)) ∧ w'.cell? (ad156.add (((ji19)).toNat * 2)) = some (.int .i64 ((rd_T41 l0 (ji19)).f0)) ∧ w'.cell? ⟨(ad156.add (((ji19)).toNat * 2)).block, (ad156.add (((ji19)).toNat * 2)).off + 1, none⟩ = some (.int .i64 ((rd_T41 l0 (ji19)).f1)) ∧ w'.cell? (ad156.add (((ji22)).toNat * 2)) = some (.int .i64 ((rd_T41 l0 (ji22)).f0)) ∧ w'.cell? ⟨(ad156.add (((ji22)).toNat * 2)).block, (ad156.add (((ji22)).toNat * 2)).off + 1, none⟩ = some (.int .i64 ((rd_T41 l0 (ji22)).f1))) (ds := []) #[false, false, false, false, false, false, false, false, false, false, false, false, false, false, false, false, false, false, false, false] (by kernel_rfl) rfl rfl ⟨(cl HB hw156_0), (cl HB hw156_1), (cl HB hw157_0), (cl HB hw157_1), (cl HB hw158_0), (cl HB hw158_1)⟩ (fun hHeld => ?_); refine with_tabW polygon_Check.tab16 polygon_Check.bits16 (fun HT_ HW_ => ?_); generalize wr.drew = wze1 at HB hx156_0 hx156_1 hx157_0 hx157_1 hx158_0 hx158_1 hHeld ⊢; refine pu_ 0 36 HT_ (h := ?_); refine pu_ 1 37 HT_ (h := ?_); refine pu_ 2 38 HT_ (h := ?_); refine pu_ 4 40 HT_ (h := ?_); refine pu_ 5 41 HT_ (h := ?_); refine pu_ 6 42 HT_ (h := ?_); refine pu_ 7 43 HT_ (h := ?_); refine pu_ 8 44 HT_ (h := ?_); refine pu_ 9 45 HT_ (h := ?_); refine pu_ 11 47 HT_ (h := ?_); refine pu_ 12 48 HT_ (h := ?_); refine pu_ 13 49 HT_ (h := ?_); refine pu_ 14 50 HT_ (h := ?_); refine pu_ 15 51 HT_ (h := ?_); refine pu_ 16 52 HT_ (h := ?_); refine tk_ 3 39 HT_ HW_ hHeld (h := ?_); refine tk_ 10 46 HT_ HW_ hHeld (h := ?_); refine tk_ 17 53 HT_ HW_ hHeld (h := ?_); refine one_ (i := 18) (N := some 54) #[true, true, true, true, true, true, true, true, true, true, true, true, true, true, true, true, true, true, true, false] rfl rfl (one_of HT_.out (by kernel_rfl)) (by decide) (fun K hK => ?_)
                    refine goes_ Try.func56 (by kernel_rfl) rfl #[.agg #[.int .i64 ((rd_T41 l0 x33_2).f0), .int .i64 ((rd_T41 l0 x33_2).f1)], .agg #[.int .i64 ((rd_T41 l0 (ji19)).f0), .int .i64 ((rd_T41 l0 (ji19)).f1)], .agg #[.int .i64 ((rd_T41 l0 (ji22)).f0), .int .i64 ((rd_T41 l0 (ji22)).f1)]] (by rfl) rfl rfl (by (try simp only [List.map_toArray, List.map_cons, List.map_nil]); first | done | (simp only [hji19, hji22]; rfl) | rfl | (simp only [List.length_drop, List.length_take]; rfl)) ?_
                    with_reducible refine (plane_Turn.calls ((rd_T41 l0 x33_2).f0) ((rd_T41 l0 x33_2).f1) ((rd_T41 l0 (ji19)).f0) ((rd_T41 l0 (ji19)).f1) ((rd_T41 l0 (ji22)).f0) ((rd_T41 l0 (ji22)).f1) t159 _ A25.out).mono ?_; rintro e wze2 ⟨rfl, hb⟩; refine ⟨_, rfl, ?_⟩; have n0_ := st HB hb; clear HB; have HB := n0_; clear n0_
                    (try clear hb)
                    (try clear hb2)
                    (try clear hk)
                    (try clear hi)
                    refine hK.out _ _ ⟨(cl HB hw156_0), (cl HB hw156_1), (cl HB hw157_0), (cl HB hw157_1), (cl HB hw158_0), (cl HB hw158_1)⟩ (fun hHeld => ?_); clear hK K; refine norm_ (a' := ?_) ?_ ?_; rotate_left
                    · show Act.put _ (some 54) _ = _; simp only [Act.put, List.setIfInBounds_toArray, List.set_cons_zero, List.set_cons_succ, i64_w, i32_w]; rfl
                    refine pu_ 19 55 HT_ (h := ?_); refine done_ (done_of HT_.out (by kernel_rfl)) ?_
                    try go_wp2
                    go_loopg [8] k2 (fun kq v8 w' => ∃ (x8_3 : Int), v8 = .int .i64 x8_3 ∧ Aside0 (polygon_Check.l2 kq l0 (l0.length : Int) x33_2 x8_3 (l0.length : Int) x33_2 = some r) ∧ Aside0 (kq ≤ k2) ∧ Aside0 (Below w.heap.size w w'))
                    case atStart => exact ⟨(wrap64 (x33_2 + 2)), (by first | rfl | (simp; done) | (simp [*]; done)), H', ⟨Nat.le_refl _⟩, ⟨by repeat (first | (with_reducible first | exact HB.out | apply below_alloc | apply pw_below_drewN | apply below_drew1) | exact HB.out)⟩⟩
                    case round =>
                     clear H'
                     (try clear c1); (try clear p1); (try clear q1); (try clear hx1); (try clear c2); (try clear c2b0); (try clear c2b1); (try clear p2); (try clear c3); (try clear c3b0); (try clear c3b1); (try clear c4); (try clear c4b0); (try clear c5); (try clear c5b0); (try clear c6); (try clear c6b0); (try clear p6); (try clear c8); (try clear c8b0); (try clear c8b1); (try clear c15); (try clear c15b0); (try clear p15); (try clear q15); (try clear hx15); (try clear c16); (try clear c16b0); (try clear c17); (try clear c17b0); (try clear c18); (try clear c18b0); (try clear c18b1); (try clear c18b2); (try clear c20); (try clear c20b0); (try clear c21); (try clear c21b0); (try clear c23); (try clear c23b0)
                     (try clear c24); (try clear c24b0); (try clear c26); (try clear c26b0); (try clear c26b1); (try clear hczze1); (try clear hczze2); (try clear hczze1); (try clear hczze2); (try clear hfzze1); (try clear hfzze2); (try clear hfzze1); (try clear hfzze2); (try clear hx152_0); (try clear hx152_1); (try clear hx156_0); (try clear hx156_1); (try clear hx157_0); (try clear hx157_1); (try clear hx158_0); (try clear hx158_1); (try clear p1); (try clear p152); (try clear p156); (try clear p157); (try clear p158); (try clear p2); (try clear p6); (try clear q1); (try clear q152); (try clear q156); (try clear q157); (try clear q158)
                     obtain ⟨x8_3, rfl, HA, HK3, HB⟩ := hrel
                     cases gk with
                     | zero => exact absurd HA.out (by simp [polygon_Check.l2])
                     | succ k3 =>
                      have H := HA.out; clear HA; simp only [polygon_Check.l2] at H; refine Or.elim (Classical.em (x8_3 < (l0.length : Int))) (fun c31 => ?p21_) (fun c31 => ?n21_)
                      case' p21_ =>
                       rw [if_pos c31] at H; have c31b0 : decide (x8_3 < (l0.length : Int)) = true := decide_eq_true c31; clear c31; refine Or.elim (Classical.em ((l0.length : Int) = 0)) (fun c32 => ?p22_) (fun c32 => ?n22_)
                       case' p22_ =>
                        rw [if_pos c32] at H; exact absurd H (by simp)
                       case' n22_ =>
                        rw [if_neg c32] at H; have c32b0 : ((l0.length : Int) == 0) = false := beq_eq_false_iff_ne.mpr c32; have c32b1 : ((l0.length : Int) != 0) = true := bne_iff_ne.mpr c32
                        have c32b2 : ¬ (l0 = []) := fun h_ => c32 (by rw [h_]; rfl)
                        refine Or.elim (Classical.em ((Int.tmod (wrap64 (x8_3 + 1)) (l0.length : Int)) = x33_2)) (fun c33 => ?p23_) (fun c33 => ?n23_)
                        case' p23_ =>
                         rw [if_pos c33] at H; have c33b0 : ((Int.tmod (wrap64 (x8_3 + 1)) (l0.length : Int)) == x33_2) = true := beq_iff_eq.mpr c33; have c33b1 : ((Int.tmod (wrap64 (x8_3 + 1)) (l0.length : Int)) != x33_2) = false := bne_eq_false_iff_eq.mpr c33; clear c33; have hm20_0 := Aside0.mk trivial
                        case' n23_ =>
                         rw [if_neg c33] at H; have c33b0 : ((Int.tmod (wrap64 (x8_3 + 1)) (l0.length : Int)) == x33_2) = false := beq_eq_false_iff_ne.mpr c33; have c33b1 : ((Int.tmod (wrap64 (x8_3 + 1)) (l0.length : Int)) != x33_2) = true := bne_iff_ne.mpr c33; refine Or.elim (Classical.em (0 ≤ x33_2)) (fun c35 => ?p24_) (fun c35 => ?n24_)
                         case' p24_ =>
                          rw [if_pos c35] at H; have c35b0 : decide (0 ≤ x33_2) = true := decide_eq_true c35; clear c35; refine Or.elim (Classical.em (x33_2 < (l0.length : Int))) (fun c36 => ?p25_) (fun c36 => ?n25_)
                          case' p25_ =>
                           rw [if_pos c36] at H; have c36b0 : decide (x33_2 < (l0.length : Int)) = true := decide_eq_true c36; clear c36; obtain ⟨ji37, hji37⟩ : ∃ j_ : Int, (wrap64 (x33_2 + 1)) = j_ := ⟨_, rfl⟩
                           (try rw [hji37] at hji19)
                           (try rw [hji37] at hji19w)
                           replace H : (if 0 ≤ (ji37) then (if (ji37) < (l0.length : Int) then (if 0 ≤ x8_3 then (if x8_3 < (l0.length : Int) then (if 0 ≤ (Int.tmod (wrap64 (x8_3 + 1)) (l0.length : Int)) then (if (Int.tmod (wrap64 (x8_3 + 1)) (l0.length : Int)) < (l0.length : Int) then ((polygon_Common.f k3 ((rd_T41 l0 x33_2).f0) ((rd_T41 l0 x33_2).f1) ((rd_T41 l0 (ji37)).f0) ((rd_T41 l0 (ji37)).f1) ((rd_T41 l0 x8_3).f0) ((rd_T41 l0 x8_3).f1) ((rd_T41 l0 (Int.tmod (wrap64 (x8_3 + 1)) (l0.length : Int))).f0) ((rd_T41 l0 (Int.tmod (wrap64 (x8_3 + 1)) (l0.length : Int))).f1)).bind fun t164 => (if t164 = true then (some 3) else (polygon_Check.l2 k3 l0 (l0.length : Int) x33_2 (wrap64 (x8_3 + 1)) (l0.length : Int) x33_2))) else (none)) else (none)) else (none)) else (none)) else (none)) else (none)) = some r := by first | (rw [hji37] at H; exact H) | (simp only [hji37] at H ⊢; exact H)
                           have hji37w : (IntKind.i64.wrap (x33_2 + 1)) = ji37 := (i64_w _).trans hji37; refine Or.elim (Classical.em (0 ≤ (ji37))) (fun c38 => ?p26_) (fun c38 => ?n26_)
                           case' p26_ =>
                            rw [if_pos c38] at H; have c38b0 : decide (0 ≤ (ji37)) = true := decide_eq_true c38; clear c38; refine Or.elim (Classical.em ((ji37) < (l0.length : Int))) (fun c39 => ?p27_) (fun c39 => ?n27_)
                            case' p27_ =>
                             rw [if_pos c39] at H; have c39b0 : decide ((ji37) < (l0.length : Int)) = true := decide_eq_true c39; clear c39; refine Or.elim (Classical.em (0 ≤ x8_3)) (fun c40 => ?p28_) (fun c40 => ?n28_)
                             case' p28_ =>
                              rw [if_pos c40] at H; have c40b0 : decide (0 ≤ x8_3) = true := decide_eq_true c40; clear c40; refine Or.elim (Classical.em (x8_3 < (l0.length : Int))) (fun c41 => ?p29_) (fun c41 => ?n29_)
                              case' p29_ =>
                               rw [if_pos c41] at H; have c41b0 : decide (x8_3 < (l0.length : Int)) = true := decide_eq_true c41; clear c41; obtain ⟨ji42, hji42⟩ : ∃ j_ : Int, (Int.tmod (wrap64 (x8_3 + 1)) (l0.length : Int)) = j_ := ⟨_, rfl⟩
                               replace H : (if 0 ≤ (ji42) then (if (ji42) < (l0.length : Int) then ((polygon_Common.f k3 ((rd_T41 l0 x33_2).f0) ((rd_T41 l0 x33_2).f1) ((rd_T41 l0 (ji37)).f0) ((rd_T41 l0 (ji37)).f1) ((rd_T41 l0 x8_3).f0) ((rd_T41 l0 x8_3).f1) ((rd_T41 l0 (ji42)).f0) ((rd_T41 l0 (ji42)).f1)).bind fun t164 => (if t164 = true then (some 3) else (polygon_Check.l2 k3 l0 (l0.length : Int) x33_2 (wrap64 (x8_3 + 1)) (l0.length : Int) x33_2))) else (none)) else (none)) = some r := by first | (rw [hji42] at H; exact H) | (simp only [hji42] at H ⊢; exact H)
                               (try rw [hji42] at c33b0)
                               (try rw [hji42] at c33b1)
                               refine Or.elim (Classical.em (0 ≤ (ji42))) (fun c43 => ?p30_) (fun c43 => ?n30_)
                               case' p30_ =>
                                rw [if_pos c43] at H; have c43b0 : decide (0 ≤ (ji42)) = true := decide_eq_true c43; clear c43; refine Or.elim (Classical.em ((ji42) < (l0.length : Int))) (fun c44 => ?p31_) (fun c44 => ?n31_)
                                case' p31_ =>
                                 rw [if_pos c44] at H; have c44b0 : decide ((ji42) < (l0.length : Int)) = true := decide_eq_true c44; clear c44; replace H := Option.bind_eq_some_iff.mp H; obtain ⟨t164, A450, H⟩ := H; replace H : (if t164 = true then (some 3) else (polygon_Check.l2 k3 l0 (l0.length : Int) x33_2 (wrap64 (x8_3 + 1)) (l0.length : Int) x33_2)) = some r := H; have A45 := Aside0.mk A450; clear A450; refine Or.elim (Classical.em (t164 = true)) (fun c46 => ?p32_) (fun c46 => ?n32_)
                                 case' p32_ =>
                                  subst c46
                                  have H1 : (some 3) = some r := by rw [if_pos rfl] at H; exact H
                                  clear H; have H := H1; clear H1; have hm20_1 := Aside0.mk trivial
                                 case' n32_ =>
                                  replace c46 := Bool.eq_false_iff.mpr c46; subst c46
                                  have H1 : (polygon_Check.l2 k3 l0 (l0.length : Int) x33_2 (wrap64 (x8_3 + 1)) (l0.length : Int) x33_2) = some r := by rw [if_neg (show ¬ (false = true) by decide)] at H; exact H
                                  clear H; have H := H1; clear H1; have hm20_2 := Aside0.mk trivial
                                case' n31_ =>
                                 rw [if_neg c44] at H; exact absurd H (by simp)
                               case' n30_ =>
                                rw [if_neg c43] at H; exact absurd H (by simp)
                              case' n29_ =>
                               rw [if_neg c41] at H; exact absurd H (by simp)
                             case' n28_ =>
                              rw [if_neg c40] at H; exact absurd H (by simp)
                            case' n27_ =>
                             rw [if_neg c39] at H; exact absurd H (by simp)
                           case' n26_ =>
                            rw [if_neg c38] at H; exact absurd H (by simp)
                          case' n25_ =>
                           rw [if_neg c36] at H; exact absurd H (by simp)
                         case' n24_ =>
                          rw [if_neg c35] at H; exact absurd H (by simp)
                      case' n21_ =>
                       rw [if_neg c31] at H; have c31b0 : decide (x8_3 < (l0.length : Int)) = false := decide_eq_false c31; clear c31; have hm20_3 := Aside0.mk trivial
                      all_goals
                       first
                        | (first | (have _hm := hm20_0) | (have _hm := hm20_2) | (have _hm := hm20_3))
                          have H' := Aside0.mk H; clear H
                          first
                           | (first | (have _hm := hm20_0) | (have _hm := hm20_2))
                             try go_wp2
                             have n0_ := Aside0.mk (below_drew1 HB.out); clear HB; have HB := n0_; clear n0_
                             first
                              | clear hm20_0; refine start_ (n := 29) (S := fun w' => True) (ds := []) #[false, false, false, false, false, false, false, false, false, false, false, false, false, false, false, false, false, false, false, false, false, false, false, false, false, false, false, false, false] (by kernel_rfl) rfl rfl trivial (fun hHeld => ?_); refine with_tabW polygon_Check.tab21 polygon_Check.bits21 (fun HT_ HW_ => ?_); generalize wr.drew = wzg1 at HB hHeld ⊢; refine pu_ 0 63 HT_ (h := ?_); refine pu_ 1 64 HT_ (h := ?_); refine pu_ 2 65 HT_ (h := ?_); refine pu_ 3 66 HT_ (h := ?_); refine pu_ 4 67 HT_ (h := ?_); refine pu_ 5 68 HT_ (h := ?_); refine pu_ 6 69 HT_ (h := ?_); refine pv_ 7 70 HT_ (h := ?_); refine pv_ 8 71 HT_ (h := ?_); refine pv_ 9 72 HT_ (h := ?_); refine pv_ 10 73 HT_ (h := ?_); refine pv_ 11 74 HT_ (h := ?_); refine pv_ 12 75 HT_ (h := ?_); refine pv_ 13 76 HT_ (h := ?_); refine pv_ 14 77 HT_ (h := ?_); refine pv_ 15 78 HT_ (h := ?_); refine pv_ 16 79 HT_ (h := ?_); refine pv_ 17 80 HT_ (h := ?_); refine pv_ 18 81 HT_ (h := ?_); refine pv_ 19 82 HT_ (h := ?_); refine pv_ 20 83 HT_ (h := ?_); refine pv_ 21 84 HT_ (h := ?_); refine pv_ 22 85 HT_ (h := ?_); refine pv_ 23 86 HT_ (h := ?_); refine pv_ 24 87 HT_ (h := ?_); refine pv_ 25 88 HT_ (h := ?_); refine pv_ 26 89 HT_ (h := ?_); refine pv_ 27 90 HT_ (h := ?_); refine pu_ 28 91 HT_ (h := ?_); refine done_ (done_of HT_.out (by kernel_rfl)) ?_
                                try go_wp2
                                go_roundg k3
                                case measure => have := HK1.out; have := HK2.out; have := HK3.out; omega
                                case rel => exact ⟨(wrap64 (x8_3 + 1)), (by first | rfl | (simp; done) | (simp [*]; done)), H', ⟨by have := HK1.out; have := HK2.out; have := HK3.out; omega⟩, ⟨by repeat (first | (with_reducible first | exact HB.out | apply below_alloc | apply pw_below_drewN | apply below_drew1) | exact HB.out)⟩⟩
                              | clear hm20_2
                                have p160 : 0 ≤ (x33_2 : Int) := of_decide_eq_true (by first | (with_reducible assumption) | assumption)
                                have q160 : x33_2 < (l0.length : Int) := of_decide_eq_true (by first | (with_reducible assumption) | assumption)
                                obtain ⟨ad160, e160, hx160_0, hx160_1⟩ := at_T41 HR0.out x33_2 p160 q160; have hw160_1 := hx160_1; have hw160_0 := hx160_0; obtain rfl : ad156 = ad160 := (by injection e160); replace hx160_0 := cl HB hx160_0; replace hx160_1 := cl HB hx160_1; replace p160 := eq_true p160; replace q160 := eq_true q160
                                have p161 : 0 ≤ ((ji37) : Int) := of_decide_eq_true (by first | (with_reducible assumption) | assumption)
                                have q161 : (ji37) < (l0.length : Int) := of_decide_eq_true (by first | (with_reducible assumption) | assumption)
                                obtain ⟨ad161, e161, hx161_0, hx161_1⟩ := at_T41 HR0.out (ji37) p161 q161; have hw161_1 := hx161_1; have hw161_0 := hx161_0; obtain rfl : ad156 = ad161 := (by injection e161); replace hx161_0 := cl HB hx161_0; replace hx161_1 := cl HB hx161_1; replace p161 := eq_true p161; replace q161 := eq_true q161
                                have p162 : 0 ≤ (x8_3 : Int) := of_decide_eq_true (by first | (with_reducible assumption) | assumption)
                                have q162 : x8_3 < (l0.length : Int) := of_decide_eq_true (by first | (with_reducible assumption) | assumption)
                                obtain ⟨ad162, e162, hx162_0, hx162_1⟩ := at_T41 HR0.out x8_3 p162 q162; have hw162_1 := hx162_1; have hw162_0 := hx162_0; obtain rfl : ad156 = ad162 := (by injection e162); replace hx162_0 := cl HB hx162_0; replace hx162_1 := cl HB hx162_1; replace p162 := eq_true p162; replace q162 := eq_true q162
                                have p163 : 0 ≤ ((ji42) : Int) := of_decide_eq_true (by first | (with_reducible assumption) | assumption)
                                have q163 : (ji42) < (l0.length : Int) := of_decide_eq_true (by first | (with_reducible assumption) | assumption)
                                obtain ⟨ad163, e163, hx163_0, hx163_1⟩ := at_T41 HR0.out (ji42) p163 q163; have hw163_1 := hx163_1; have hw163_0 := hx163_0; obtain rfl : ad156 = ad163 := (by injection e163); replace hx163_0 := cl HB hx163_0; replace hx163_1 := cl HB hx163_1; replace p163 := eq_true p163; replace q163 := eq_true q163; refine start_ (n := 29) (S := fun w' => w'.cell? (ad156.add ((x33_2).toNat * 2)) = some (.int .i64 ((rd_T41 l0 x33_2).f0)) ∧ w'.cell? ⟨(ad156.add ((x33_2).toNat * 2)).block, (ad156.add ((x33_2).toNat * 2)).off + 1, none⟩ = some (.int .i64 ((rd_T41 l0 x33_2).f1)) ∧ w'.cell? (ad156.add (((ji37)).toNat * 2)) = some (.int .i64 ((rd_T41 l0 (ji37)).f0)) ∧ w'.cell? ⟨(ad156.add (((ji37)).toNat * 2)).block, (ad156.add (((ji37)).toNat * 2)).off + 1, none⟩ = some (.int .i64 ((rd_T41 l0 (ji37)).f1)) ∧ w'.cell? (ad156.add ((x8_3).toNat * 2)) = some (.int .i64 ((rd_T41 l0 x8_3).f0)) ∧ w'.cell? ⟨(ad156.add ((x8_3).toNat * 2)).block, (ad156.add ((x8_3).toNat * 2)).off + 1, none⟩ = some (.int .i64 ((rd_T41 l0 x8_3).f1)) ∧ w'.cell? (ad156.add (((ji42)).toNat * 2)) = some (.int .i64 ((rd_T41 l0 (ji42)).f0)) ∧ w'.cell? ⟨(ad156.add (((ji42)).toNat * 2)).block, (ad156.add (((ji42)).toNat * 2)).off + 1, none⟩ = some (.int .i64 ((rd_T41 l0 (ji42)).f1))) (ds := []) #[false, false, false, false, false, false, false, false, false, false, false, false, false, false, false, false, false, false, false, false, false, false, false, false, false, false, false, false, false] (by kernel_rfl) rfl rfl ⟨(cl HB hw160_0), (cl HB hw160_1), (cl HB hw161_0), (cl HB hw161_1), (cl HB hw162_0), (cl HB hw162_1), (cl HB hw163_0), (cl HB hw163_1)⟩ (fun hHeld => ?_); refine with_tabW polygon_Check.tab21 polygon_Check.bits21 (fun HT_ HW_ => ?_); generalize wr.drew = wzg1 at HB hx160_0 hx160_1 hx161_0 hx161_1 hx162_0 hx162_1 hx163_0 hx163_1 hHeld ⊢; refine pu_ 0 63 HT_ (h := ?_); refine pu_ 1 64 HT_ (h := ?_); refine pu_ 2 65 HT_ (h := ?_); refine pu_ 3 66 HT_ (h := ?_); refine pu_ 4 67 HT_ (h := ?_); refine pu_ 5 68 HT_ (h := ?_); refine pu_ 6 69 HT_ (h := ?_); refine pu_ 7 70 HT_ (h := ?_); refine pu_ 8 71 HT_ (h := ?_); refine pu_ 9 72 HT_ (h := ?_); refine pu_ 11 74 HT_ (h := ?_); refine pu_ 12 75 HT_ (h := ?_); refine pu_ 13 76 HT_ (h := ?_); refine pu_ 14 77 HT_ (h := ?_); refine pu_ 16 79 HT_ (h := ?_); refine pu_ 17 80 HT_ (h := ?_); refine pu_ 18 81 HT_ (h := ?_); refine pu_ 20 83 HT_ (h := ?_); refine pu_ 21 84 HT_ (h := ?_); refine pu_ 22 85 HT_ (h := ?_); refine pu_ 23 86 HT_ (h := ?_); refine pu_ 24 87 HT_ (h := ?_); refine pu_ 25 88 HT_ (h := ?_); refine tk_ 10 73 HT_ HW_ hHeld (h := ?_); refine tk_ 15 78 HT_ HW_ hHeld (h := ?_); refine tk_ 19 82 HT_ HW_ hHeld (h := ?_); refine tk_ 26 89 HT_ HW_ hHeld (h := ?_); refine one_ (i := 27) (N := some 90) #[true, true, true, true, true, true, true, true, true, true, true, true, true, true, true, true, true, true, true, true, true, true, true, true, true, true, true, true, false] rfl rfl (one_of HT_.out (by kernel_rfl)) (by decide) (fun K hK => ?_)
                                refine goes_ Try.func57 (by kernel_rfl) rfl #[.agg #[.int .i64 ((rd_T41 l0 x33_2).f0), .int .i64 ((rd_T41 l0 x33_2).f1)], .agg #[.int .i64 ((rd_T41 l0 (ji37)).f0), .int .i64 ((rd_T41 l0 (ji37)).f1)], .agg #[.int .i64 ((rd_T41 l0 x8_3).f0), .int .i64 ((rd_T41 l0 x8_3).f1)], .agg #[.int .i64 ((rd_T41 l0 (ji42)).f0), .int .i64 ((rd_T41 l0 (ji42)).f1)]] (by rfl) rfl rfl (by (try simp only [List.map_toArray, List.map_cons, List.map_nil]); first | done | (simp only [hji37, hji42]; rfl) | rfl | (simp only [List.length_drop, List.length_take]; rfl)) ?_
                                with_reducible refine (polygon_Common.calls k3 ((rd_T41 l0 x33_2).f0) ((rd_T41 l0 x33_2).f1) ((rd_T41 l0 (ji37)).f0) ((rd_T41 l0 (ji37)).f1) ((rd_T41 l0 x8_3).f0) ((rd_T41 l0 x8_3).f1) ((rd_T41 l0 (ji42)).f0) ((rd_T41 l0 (ji42)).f1) false _ A45.out).mono ?_; rintro e wzg2 ⟨rfl, hb⟩; refine ⟨_, rfl, ?_⟩; have n0_ := st HB hb; clear HB; have HB := n0_; clear n0_
                                (try clear hb)
                                (try clear hb2)
                                (try clear hk)
                                (try clear hi)
                                refine hK.out _ _ ⟨(cl HB hw160_0), (cl HB hw160_1), (cl HB hw161_0), (cl HB hw161_1), (cl HB hw162_0), (cl HB hw162_1), (cl HB hw163_0), (cl HB hw163_1)⟩ (fun hHeld => ?_); clear hK K; refine norm_ (a' := ?_) ?_ ?_; rotate_left
                                · show Act.put _ (some 90) _ = _; simp only [Act.put, List.setIfInBounds_toArray, List.set_cons_zero, List.set_cons_succ, i64_w, i32_w]; rfl
                                refine pu_ 28 91 HT_ (h := ?_); refine done_ (done_of HT_.out (by kernel_rfl)) ?_
                                try go_wp2
                                first | go_roundg k3 | (subst hji37; subst hji42; go_roundg k3)
                                case measure => have := HK1.out; have := HK2.out; have := HK3.out; omega
                                case rel => exact ⟨(wrap64 (x8_3 + 1)), (by first | rfl | (simp; done) | (simp [*]; done)), H', ⟨by have := HK1.out; have := HK2.out; have := HK3.out; omega⟩, ⟨by repeat (first | (with_reducible first | exact HB.out | apply below_alloc | apply pw_below_drewN | apply below_drew1) | exact HB.out)⟩⟩
                           | clear hm20_3; go_wp2; go_roundg k3
                             case measure => have := HK1.out; have := HK2.out; have := HK3.out; omega
                             case rel => exact ⟨(wrap64 (x33_2 + 1)), (by first | rfl | (simp; done) | (simp [*]; done)), H', ⟨by have := HK1.out; have := HK2.out; have := HK3.out; omega⟩, ⟨by repeat (first | (with_reducible first | exact HB.out | apply below_alloc | apply pw_below_drewN | apply below_drew1) | exact HB.out)⟩⟩
                        | clear hm20_1; obtain rfl := Option.some.inj H
                          try go_wp2
                          have n0_ := Aside0.mk (below_drew1 HB.out); clear HB; have HB := n0_; clear n0_
                          have p160 : 0 ≤ (x33_2 : Int) := of_decide_eq_true (by first | (with_reducible assumption) | assumption)
                          have q160 : x33_2 < (l0.length : Int) := of_decide_eq_true (by first | (with_reducible assumption) | assumption)
                          obtain ⟨ad160, e160, hx160_0, hx160_1⟩ := at_T41 HR0.out x33_2 p160 q160; have hw160_1 := hx160_1; have hw160_0 := hx160_0; obtain rfl : ad156 = ad160 := (by injection e160); replace hx160_0 := cl HB hx160_0; replace hx160_1 := cl HB hx160_1; replace p160 := eq_true p160; replace q160 := eq_true q160
                          have p161 : 0 ≤ ((ji37) : Int) := of_decide_eq_true (by first | (with_reducible assumption) | assumption)
                          have q161 : (ji37) < (l0.length : Int) := of_decide_eq_true (by first | (with_reducible assumption) | assumption)
                          obtain ⟨ad161, e161, hx161_0, hx161_1⟩ := at_T41 HR0.out (ji37) p161 q161; have hw161_1 := hx161_1; have hw161_0 := hx161_0; obtain rfl : ad156 = ad161 := (by injection e161); replace hx161_0 := cl HB hx161_0; replace hx161_1 := cl HB hx161_1; replace p161 := eq_true p161; replace q161 := eq_true q161
                          have p162 : 0 ≤ (x8_3 : Int) := of_decide_eq_true (by first | (with_reducible assumption) | assumption)
                          have q162 : x8_3 < (l0.length : Int) := of_decide_eq_true (by first | (with_reducible assumption) | assumption)
                          obtain ⟨ad162, e162, hx162_0, hx162_1⟩ := at_T41 HR0.out x8_3 p162 q162; have hw162_1 := hx162_1; have hw162_0 := hx162_0; obtain rfl : ad156 = ad162 := (by injection e162); replace hx162_0 := cl HB hx162_0; replace hx162_1 := cl HB hx162_1; replace p162 := eq_true p162; replace q162 := eq_true q162
                          have p163 : 0 ≤ ((ji42) : Int) := of_decide_eq_true (by first | (with_reducible assumption) | assumption)
                          have q163 : (ji42) < (l0.length : Int) := of_decide_eq_true (by first | (with_reducible assumption) | assumption)
                          obtain ⟨ad163, e163, hx163_0, hx163_1⟩ := at_T41 HR0.out (ji42) p163 q163; have hw163_1 := hx163_1; have hw163_0 := hx163_0; obtain rfl : ad156 = ad163 := (by injection e163); replace hx163_0 := cl HB hx163_0; replace hx163_1 := cl HB hx163_1; replace p163 := eq_true p163; replace q163 := eq_true q163; refine start_ (n := 29) (S := fun w' => w'.cell? (ad156.add ((x33_2).toNat * 2)) = some (.int .i64 ((rd_T41 l0 x33_2).f0)) ∧ w'.cell? ⟨(ad156.add ((x33_2).toNat * 2)).block, (ad156.add ((x33_2).toNat * 2)).off + 1, none⟩ = some (.int .i64 ((rd_T41 l0 x33_2).f1)) ∧ w'.cell? (ad156.add (((ji37)).toNat * 2)) = some (.int .i64 ((rd_T41 l0 (ji37)).f0)) ∧ w'.cell? ⟨(ad156.add (((ji37)).toNat * 2)).block, (ad156.add (((ji37)).toNat * 2)).off + 1, none⟩ = some (.int .i64 ((rd_T41 l0 (ji37)).f1)) ∧ w'.cell? (ad156.add ((x8_3).toNat * 2)) = some (.int .i64 ((rd_T41 l0 x8_3).f0)) ∧ w'.cell? ⟨(ad156.add ((x8_3).toNat * 2)).block, (ad156.add ((x8_3).toNat * 2)).off + 1, none⟩ = some (.int .i64 ((rd_T41 l0 x8_3).f1)) ∧ w'.cell? (ad156.add (((ji42)).toNat * 2)) = some (.int .i64 ((rd_T41 l0 (ji42)).f0)) ∧ w'.cell? ⟨(ad156.add (((ji42)).toNat * 2)).block, (ad156.add (((ji42)).toNat * 2)).off + 1, none⟩ = some (.int .i64 ((rd_T41 l0 (ji42)).f1))) (ds := []) #[false, false, false, false, false, false, false, false, false, false, false, false, false, false, false, false, false, false, false, false, false, false, false, false, false, false, false, false, false] (by kernel_rfl) rfl rfl ⟨(cl HB hw160_0), (cl HB hw160_1), (cl HB hw161_0), (cl HB hw161_1), (cl HB hw162_0), (cl HB hw162_1), (cl HB hw163_0), (cl HB hw163_1)⟩ (fun hHeld => ?_); refine with_tabW polygon_Check.tab21 polygon_Check.bits21 (fun HT_ HW_ => ?_); generalize wr.drew = wzg1 at HB hx160_0 hx160_1 hx161_0 hx161_1 hx162_0 hx162_1 hx163_0 hx163_1 hHeld ⊢; refine pu_ 0 63 HT_ (h := ?_); refine pu_ 1 64 HT_ (h := ?_); refine pu_ 2 65 HT_ (h := ?_); refine pu_ 3 66 HT_ (h := ?_); refine pu_ 4 67 HT_ (h := ?_); refine pu_ 5 68 HT_ (h := ?_); refine pu_ 6 69 HT_ (h := ?_); refine pu_ 7 70 HT_ (h := ?_); refine pu_ 8 71 HT_ (h := ?_); refine pu_ 9 72 HT_ (h := ?_); refine pu_ 11 74 HT_ (h := ?_); refine pu_ 12 75 HT_ (h := ?_); refine pu_ 13 76 HT_ (h := ?_); refine pu_ 14 77 HT_ (h := ?_); refine pu_ 16 79 HT_ (h := ?_); refine pu_ 17 80 HT_ (h := ?_); refine pu_ 18 81 HT_ (h := ?_); refine pu_ 20 83 HT_ (h := ?_); refine pu_ 21 84 HT_ (h := ?_); refine pu_ 22 85 HT_ (h := ?_); refine pu_ 23 86 HT_ (h := ?_); refine pu_ 24 87 HT_ (h := ?_); refine pu_ 25 88 HT_ (h := ?_); refine tk_ 10 73 HT_ HW_ hHeld (h := ?_); refine tk_ 15 78 HT_ HW_ hHeld (h := ?_); refine tk_ 19 82 HT_ HW_ hHeld (h := ?_); refine tk_ 26 89 HT_ HW_ hHeld (h := ?_); refine one_ (i := 27) (N := some 90) #[true, true, true, true, true, true, true, true, true, true, true, true, true, true, true, true, true, true, true, true, true, true, true, true, true, true, true, true, false] rfl rfl (one_of HT_.out (by kernel_rfl)) (by decide) (fun K hK => ?_)
                          refine goes_ Try.func57 (by kernel_rfl) rfl #[.agg #[.int .i64 ((rd_T41 l0 x33_2).f0), .int .i64 ((rd_T41 l0 x33_2).f1)], .agg #[.int .i64 ((rd_T41 l0 (ji37)).f0), .int .i64 ((rd_T41 l0 (ji37)).f1)], .agg #[.int .i64 ((rd_T41 l0 x8_3).f0), .int .i64 ((rd_T41 l0 x8_3).f1)], .agg #[.int .i64 ((rd_T41 l0 (ji42)).f0), .int .i64 ((rd_T41 l0 (ji42)).f1)]] (by rfl) rfl rfl (by (try simp only [List.map_toArray, List.map_cons, List.map_nil]); first | done | (simp only [hji37, hji42]; rfl) | rfl | (simp only [List.length_drop, List.length_take]; rfl)) ?_
                          with_reducible refine (polygon_Common.calls k3 ((rd_T41 l0 x33_2).f0) ((rd_T41 l0 x33_2).f1) ((rd_T41 l0 (ji37)).f0) ((rd_T41 l0 (ji37)).f1) ((rd_T41 l0 x8_3).f0) ((rd_T41 l0 x8_3).f1) ((rd_T41 l0 (ji42)).f0) ((rd_T41 l0 (ji42)).f1) true _ A45.out).mono ?_; rintro e wzg2 ⟨rfl, hb⟩; refine ⟨_, rfl, ?_⟩; have n0_ := st HB hb; clear HB; have HB := n0_; clear n0_
                          (try clear hb)
                          (try clear hb2)
                          (try clear hk)
                          (try clear hi)
                          refine hK.out _ _ ⟨(cl HB hw160_0), (cl HB hw160_1), (cl HB hw161_0), (cl HB hw161_1), (cl HB hw162_0), (cl HB hw162_1), (cl HB hw163_0), (cl HB hw163_1)⟩ (fun hHeld => ?_); clear hK K; refine norm_ (a' := ?_) ?_ ?_; rotate_left
                          · show Act.put _ (some 90) _ = _; simp only [Act.put, List.setIfInBounds_toArray, List.set_cons_zero, List.set_cons_succ, i64_w, i32_w]; rfl
                          refine pu_ 28 91 HT_ (h := ?_); refine done_ (done_of HT_.out (by kernel_rfl)) ?_
                          try go_wp2
                          go_ret
                          exact ⟨by first | rfl | (simp [errW_none, errW_some] <;> rfl) | (simp only [← hji19, ← hji22, ← hji37, ← hji42]; first | rfl | (simp [errW_none, errW_some] <;> rfl)) | (simp [*, errW_none, errW_some] <;> rfl), by repeat (first | (with_reducible first | exact HB.out | apply below_alloc | apply pw_below_drewN | apply below_drew1) | exact HB.out)⟩
         | clear hm4_1; obtain rfl := Option.some.inj H
           have p152 : 0 ≤ (x19_1 : Int) := of_decide_eq_true (by first | (with_reducible assumption) | assumption)
           have q152 : x19_1 < (l0.length : Int) := of_decide_eq_true (by first | (with_reducible assumption) | assumption)
           obtain ⟨ad152, e152, hx152_0, hx152_1⟩ := at_T41 HR0.out x19_1 p152 q152; cases e152; replace hx152_0 := cl HB hx152_0; replace hx152_1 := cl HB hx152_1; replace p152 := eq_true p152; replace q152 := eq_true q152
           go_wp2_with (first | ((with_reducible refine gate_dst (N := 4) rfl ?_); refine box_s #[.int .i64 0, .int .i64 0] 41 ?_; intro gb153 hg wx0f3f1 hbox hb; have n0_ := st HB hb; have n1_ := Aside0.mk (hbox); have n2_ := ge HB hg; have n3_ := ge HB hg; clear HB; have HB := n0_; have BK153 := n1_; have GW153 := n2_; have GE153 := n3_; clear n0_ n1_ n2_ n3_; clear hb hbox hg; have hczx0f3f1 : wx0f3f1.cell? ⟨gb153, 0, none⟩ = some (.int .i64 0) := bc BK153 0; have hczx0f3f2 : wx0f3f1.cell? ⟨gb153, 1, none⟩ = some (.int .i64 0) := bc BK153 1; have hfzx0f3f1 := blk_frozen BK153.out 0; have hfzx0f3f2 := blk_frozen BK153.out 1) | ((with_reducible refine gate_callee (f := 37) rfl ?_); refine goesL_ (some 24) rfl rfl Try.func37 (by kernel_rfl) rfl #[.agg #[.int .i64 ((rd_T41 l0 x19_1).f0), .int .i64 ((rd_T41 l0 x19_1).f1)]] rfl any_s ?_; (with_reducible refine (plane_Check.calls ((rd_T41 l0 x19_1).f0) ((rd_T41 l0 x19_1).f1) t154 _ A7.out).mono ?_); rintro e wxe6911 ⟨rfl, hb⟩; refine ⟨_, rfl, ?_⟩; have n0_ := Aside0.mk (blk_below (g := gb153) (o := .cells #[.int .i64 ((rd_T41 l0 x19_1).f0), .int .i64 ((rd_T41 l0 x19_1).f1)] 41 (0, 0)) (by (with_reducible repeat (first | refine blk_drewN ?_ _ | refine blk_drew ?_ | refine blk_alloc ?_ _)); refine blk_put (cs := #[.int .i64 ((rd_T41 l0 x19_1).f0), .int .i64 0]) ?_ 1 _ rfl; (with_reducible repeat (first | refine blk_drewN ?_ _ | refine blk_drew ?_ | refine blk_alloc ?_ _)); refine blk_put (cs := #[.int .i64 0, .int .i64 0]) ?_ 0 _ rfl; (with_reducible repeat (first | refine blk_drewN ?_ _ | refine blk_drew ?_ | refine blk_alloc ?_ _)); exact BK153.out) hb); have n1_ := st HB hb; clear BK153; clear HB; have BK153 := n0_; have HB := n1_; clear n0_ n1_; (try clear hb); (try clear hb2); (try clear hk); (try clear hi)))
           go_ret
           exact ⟨by first | rfl | (simp [errW_none, errW_some] <;> rfl) | (simp [*, errW_none, errW_some] <;> rfl), by repeat (first | (with_reducible first | exact HB.out | apply below_alloc | apply pw_below_drewN | apply below_drew1 | refine below_set ?_ GE153.out) | exact HB.out)⟩

end Go.Proofs.Ythghilclgobpbaa.PVolumeOverlap
