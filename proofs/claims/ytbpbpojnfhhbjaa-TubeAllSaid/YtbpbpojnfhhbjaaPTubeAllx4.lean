/- Made by a program of this session (wip/tools/myprint.py, over the kit's printer): that the Go functions answer as the Lean functions printed beside them. -/
import Derived.Test.YtbpbpojnfhhbjaaPTubeAllx0
import Derived.Test.YtbpbpojnfhhbjaaPTubeAllx3
namespace Go.Proofs.Ytbpbpojnfhhbjaa.PTubeAll
open Go.RowKit Go.Proofs.YtbpbpojnfhhbjaaW.PrintWords Go.Proofs.YtbpbpojnfhhbjaaW.PrintLast Go.Proofs.YtbpbpojnfhhbjaaW.PrintMore
attribute [local go_sem] max2_int min2_int max_two min_two max_three min_three max_four min_four   -- for this text's walks alone
set_option linter.unusedVariables false
set_option linter.unusedSimpArgs false

/-! ### tube_at: function 86 -/
mutual
def tube_at.j0 : Nat → List (S88) → Int → Bool → Option (Int × Int × Int × Int × Int × Int × Int)
  | 0, _, _, _ => none
  | k + 1, x0, x1, x31 => if x31 = true then (some (0, 0, 0, 0, 0, 0, 12)) else (tube_at.l0 k x0 x1 0)
def tube_at.j2 : Nat → List (S88) → Int → Int → Option (Int × Int × Int × Int × Int × Int × Int)
  | 0, _, _, _ => none
  | k + 1, x0, x1, x6 => if 0 ≤ x6 then (if x6 < (x0.length : Int) then (if ((rd_T88 x0 x6).f0.f0) = x1 then (some ((rd_T88 x0 x6).f0.f0, (rd_T88 x0 x6).f0.f1.f0, (rd_T88 x0 x6).f0.f1.f1, (rd_T88 x0 x6).f0.f2, (rd_T88 x0 x6).f1, (rd_T88 x0 x6).f2, 0)) else (if 0 ≤ (wrap64 (x6 + 1)) then (if (wrap64 (x6 + 1)) < (x0.length : Int) then ((plane_Toward.f k ((rd_T88 x0 x6).f0.f1.f0) ((rd_T88 x0 x6).f0.f1.f1) ((rd_T88 x0 (wrap64 (x6 + 1))).f0.f1.f0) ((rd_T88 x0 (wrap64 (x6 + 1))).f0.f1.f1) (wrap64 (x1 - ((rd_T88 x0 x6).f0.f0))) (wrap64 (((rd_T88 x0 (wrap64 (x6 + 1))).f0.f0) - ((rd_T88 x0 x6).f0.f0)))).bind fun bt129 => ((tube_between.f k ((rd_T88 x0 x6).f0.f2) ((rd_T88 x0 (wrap64 (x6 + 1))).f0.f2) (wrap64 (x1 - ((rd_T88 x0 x6).f0.f0))) (wrap64 (((rd_T88 x0 (wrap64 (x6 + 1))).f0.f0) - ((rd_T88 x0 x6).f0.f0)))).bind fun t133 => ((tube_above.f k ((rd_T88 x0 x6).f1) ((rd_T88 x0 (wrap64 (x6 + 1))).f1) (wrap64 (x1 - ((rd_T88 x0 x6).f0.f0))) (wrap64 (((rd_T88 x0 (wrap64 (x6 + 1))).f0.f0) - ((rd_T88 x0 x6).f0.f0)))).bind fun t134 => ((tube_above.f k ((rd_T88 x0 x6).f2) ((rd_T88 x0 (wrap64 (x6 + 1))).f2) (wrap64 (x1 - ((rd_T88 x0 x6).f0.f0))) (wrap64 (((rd_T88 x0 (wrap64 (x6 + 1))).f0.f0) - ((rd_T88 x0 x6).f0.f0)))).bind fun t135 => (some (x1, bt129.1, bt129.2.1, t133, t134, t135, 0)))))) else (none)) else (none))) else (none)) else (none)
def tube_at.l0 : Nat → List (S88) → Int → Int → Option (Int × Int × Int × Int × Int × Int × Int)
  | 0, _, _, _ => none
  | k + 1, x0, x1, x6 => if (wrap64 (x6 + 1)) < (x0.length : Int) then (if 0 ≤ (wrap64 (x6 + 1)) then (if ((rd_T88 x0 (wrap64 (x6 + 1))).f0.f0) ≤ x1 then (tube_at.l0 k x0 x1 (wrap64 (x6 + 1))) else (tube_at.j2 k x0 x1 x6)) else (none)) else (tube_at.j2 k x0 x1 x6)
end
def tube_at.f (k : Nat) (l0 : List (S88)) (a1 : Int) : Option (Int × Int × Int × Int × Int × Int × Int) := if 0 < (l0.length : Int) then (if a1 < ((rd_T88 l0 0).f0.f0) then (tube_at.j0 k l0 a1 true) else (if 0 ≤ (wrap64 ((l0.length : Int) - 1)) then (if (wrap64 ((l0.length : Int) - 1)) < (l0.length : Int) then (tube_at.j0 k l0 a1 (decide (a1 > ((rd_T88 l0 (wrap64 ((l0.length : Int) - 1))).f0.f0)))) else (none)) else (none))) else (none)
theorem tube_at.mono_l : ∀ k, (∀ y0 y1 y2, LeO (tube_at.j0 k y0 y1 y2) (tube_at.j0 (k + 1) y0 y1 y2)) ∧ (∀ y0 y1 y2, LeO (tube_at.j2 k y0 y1 y2) (tube_at.j2 (k + 1) y0 y1 y2)) ∧ (∀ y0 y1 y2, LeO (tube_at.l0 k y0 y1 y2) (tube_at.l0 (k + 1) y0 y1 y2))
  | 0 => ⟨fun _ _ _ r h => by simp [tube_at.j0] at h, fun _ _ _ r h => by simp [tube_at.j2] at h, fun _ _ _ r h => by simp [tube_at.l0] at h⟩
  | k + 1 => by
    obtain ⟨ih0, ih1, ih2⟩ := tube_at.mono_l k
    refine ⟨?_, ?_, ?_⟩
    · intro y0 y1 y2
      unfold tube_at.j0
      repeat' first
      | (with_reducible exact ih0 _ _ _)
      | (with_reducible exact ih1 _ _ _)
      | (with_reducible exact ih2 _ _ _)
      | (with_reducible exact plane_Toward.mono _ _ _ _ _ _ _)
      | (with_reducible exact tube_above.mono _ _ _ _ _)
      | (with_reducible exact tube_between.mono _ _ _ _ _)
      | (with_reducible exact LeO.refl _)
      | (with_reducible exact LeO.none _)
      | (with_reducible refine LeO.ite ?_ ?_)
      | (with_reducible refine LeO.bind ?_ (fun _ => ?_))
      | exact ih0 _ _ _
      | exact ih1 _ _ _
      | exact ih2 _ _ _
      | exact plane_Toward.mono _ _ _ _ _ _ _
      | exact tube_above.mono _ _ _ _ _
      | exact tube_between.mono _ _ _ _ _
      | exact LeO.none _
      | refine LeO.ite ?_ ?_
      | refine LeO.bind ?_ (fun _ => ?_)
    · intro y0 y1 y2
      unfold tube_at.j2
      repeat' first
      | (with_reducible exact ih0 _ _ _)
      | (with_reducible exact ih1 _ _ _)
      | (with_reducible exact ih2 _ _ _)
      | (with_reducible exact plane_Toward.mono _ _ _ _ _ _ _)
      | (with_reducible exact tube_above.mono _ _ _ _ _)
      | (with_reducible exact tube_between.mono _ _ _ _ _)
      | (with_reducible exact LeO.refl _)
      | (with_reducible exact LeO.none _)
      | (with_reducible refine LeO.ite ?_ ?_)
      | (with_reducible refine LeO.bind ?_ (fun _ => ?_))
      | exact ih0 _ _ _
      | exact ih1 _ _ _
      | exact ih2 _ _ _
      | exact plane_Toward.mono _ _ _ _ _ _ _
      | exact tube_above.mono _ _ _ _ _
      | exact tube_between.mono _ _ _ _ _
      | exact LeO.none _
      | refine LeO.ite ?_ ?_
      | refine LeO.bind ?_ (fun _ => ?_)
    · intro y0 y1 y2
      unfold tube_at.l0
      repeat' first
      | (with_reducible exact ih0 _ _ _)
      | (with_reducible exact ih1 _ _ _)
      | (with_reducible exact ih2 _ _ _)
      | (with_reducible exact plane_Toward.mono _ _ _ _ _ _ _)
      | (with_reducible exact tube_above.mono _ _ _ _ _)
      | (with_reducible exact tube_between.mono _ _ _ _ _)
      | (with_reducible exact LeO.refl _)
      | (with_reducible exact LeO.none _)
      | (with_reducible refine LeO.ite ?_ ?_)
      | (with_reducible refine LeO.bind ?_ (fun _ => ?_))
      | exact ih0 _ _ _
      | exact ih1 _ _ _
      | exact ih2 _ _ _
      | exact plane_Toward.mono _ _ _ _ _ _ _
      | exact tube_above.mono _ _ _ _ _
      | exact tube_between.mono _ _ _ _ _
      | exact LeO.none _
      | refine LeO.ite ?_ ?_
      | refine LeO.bind ?_ (fun _ => ?_)
theorem tube_at.mono : ∀ a0 a1 k, LeO (tube_at.f k a0 a1) (tube_at.f (k + 1) a0 a1) := by
  intro a0 a1 k
  obtain ⟨ih0, ih1, ih2⟩ := tube_at.mono_l k
  unfold tube_at.f
  repeat' first
      | (with_reducible exact ih0 _ _ _)
      | (with_reducible exact ih1 _ _ _)
      | (with_reducible exact ih2 _ _ _)
      | (with_reducible exact plane_Toward.mono _ _ _ _ _ _ _)
      | (with_reducible exact tube_above.mono _ _ _ _ _)
      | (with_reducible exact tube_between.mono _ _ _ _ _)
      | (with_reducible exact LeO.refl _)
      | (with_reducible exact LeO.none _)
      | (with_reducible refine LeO.ite ?_ ?_)
      | (with_reducible refine LeO.bind ?_ (fun _ => ?_))
      | exact ih0 _ _ _
      | exact ih1 _ _ _
      | exact ih2 _ _ _
      | exact plane_Toward.mono _ _ _ _ _ _ _
      | exact tube_above.mono _ _ _ _ _
      | exact tube_between.mono _ _ _ _ _
      | exact LeO.none _
      | refine LeO.ite ?_ ?_
      | refine LeO.bind ?_ (fun _ => ?_)
def tube_at.T10 : Bool × List (List Nat × List Nat) := (true, [([], []), ([], []), ([1], [1]), ([2], [2]), ([0, 3], [0, 3]), ([], []), ([5], [5]), ([6], [6]), ([], []), ([8], [8]), ([9], [9]), ([7, 10], [7, 10]), ([4, 0, 1, 2, 3, 4], [4]), ([11, 12, 0, 1, 2, 3, 4, 5, 6, 7, 8, 9, 10, 11, 12], [11])])
def tube_at.B10 : List Nat := [0, 0, 2, 6, 15, 0, 32, 96, 0, 256, 768, 2016, 31, 8191]
theorem tube_at.tab10 : rtab .any (opsOf Try.f86 10) = tube_at.T10 := by kernel_rfl
theorem tube_at.bits10 : waitsOk tube_at.T10.2 tube_at.B10 = true := by kernel_rfl
def tube_at.T12 : Bool × List (List Nat × List Nat) := (true, [([], []), ([], []), ([], []), ([2], [2]), ([3], [3]), ([], []), ([5], [5]), ([6], [6]), ([], []), ([], []), ([4, 7, 8, 9], [4, 7, 8, 9]), ([0, 1, 10], [0, 1, 10]), ([], []), ([12], [12]), ([], []), ([14], [14]), ([], []), ([], []), ([13, 15, 16, 17, 10], [13, 15, 16, 17]), ([], []), ([19], [19]), ([], []), ([21], [21]), ([], []), ([], []), ([20, 22, 23, 24, 18], [20, 22, 23, 24]), ([11, 18, 25], [11, 18, 25]), ([26, 25, 0, 1, 2, 3, 4, 5, 6, 7, 8, 9, 10, 11, 12, 13, 14, 15, 16, 17, 18, 19, 20, 21, 22, 23, 24, 25, 26], [26]), ([27, 0, 1, 2, 3, 4, 5, 6, 7, 8, 9, 10, 11, 12, 13, 14, 15, 16, 17, 18, 19, 20, 21, 22, 23, 24, 25, 26, 27], [])])
def tube_at.B12 : List Nat := [0, 0, 0, 4, 12, 0, 32, 96, 0, 0, 1020, 2047, 0, 4096, 0, 16384, 0, 0, 260092, 0, 524288, 0, 2097152, 0, 0, 33552380, 67108863, 134217727, 268435455]
theorem tube_at.tab12 : rtab .any (opsOf Try.f86 12) = tube_at.T12 := by kernel_rfl
theorem tube_at.bits12 : waitsOk tube_at.T12.2 tube_at.B12 = true := by kernel_rfl
set_option maxHeartbeats 8000000 in
set_option maxRecDepth 100000 in
theorem tube_at.calls (k : Nat) (A0 : Option Addr) (c0 : Nat) (l0 : List (S88)) (a1 : Int) (r1 : Int) (r2 : Int) (r3 : Int) (r4 : Int) (r5 : Int) (r6 : Int) (r7 : Int) (w : World) (hr0 : Kd.C k88 w A0 l0.length l0) (hc0 : l0.length ≤ c0) (h : tube_at.f k l0 a1 = some (r1, r2, r3, r4, r5, r6, r7)) :
    Calls Try.prog 86 #[.slice A0 l0.length c0, .int .i64 a1] w fun e w' => e = .returned (.tuple #[.agg #[.int .i64 r1, .int .i64 r2, .int .i64 r3, .int .i64 r4, .int .i64 r5, .int .i64 r6], .int .i64 r7]) ∧ Below w.heap.size w w' := by
 have hu88 := Try.underlying88
 have hu36 := Try.underlying36
 have hu71 := Try.underlying71
 have HR0 := Aside0.mk hr0
 have HC0 := Aside0.mk hc0
 clear hr0 hc0
 have HB := Aside0.mk (Below.refl w.heap.size w)
 have H : (if 0 < (l0.length : Int) then (if a1 < ((rd_T88 l0 0).f0.f0) then (tube_at.j0 k l0 a1 true) else (if 0 ≤ (wrap64 ((l0.length : Int) - 1)) then (if (wrap64 ((l0.length : Int) - 1)) < (l0.length : Int) then (tube_at.j0 k l0 a1 (decide (a1 > ((rd_T88 l0 (wrap64 ((l0.length : Int) - 1))).f0.f0)))) else (none)) else (none))) else (none)) = some (r1, r2, r3, r4, r5, r6, r7) := h
 clear h
 have HC3 := Aside0.mk H
 clear H
 go_enter Try.func86, Try.ntmps86
 go_upto_region 1 with (first | ((with_reducible refine gate_dst (N := 4) rfl ?_); (try (refine gate_guard (by rfl) ?_; dsimp only)); refine box_event ?hg (N := 4) ?hd (cs := #[.int .i64 0, .int .i64 0, .int .i64 0, .int .i64 0, .int .i64 0, .int .i64 0]) (t := 88) ?hr ?_; (case hd => rfl); (case hg => rfl); (case hr => first | (go_simp; done) | (go_simp; rfl)); intro gb121 hg w4 hbox hb; have n0_ := Aside0.mk (below_step (by repeat (first | (with_reducible first | exact HB.out | apply below_alloc | apply pw_below_drewN | apply below_drew1) | exact HB.out)) hb); have n1_ := Aside0.mk (hbox); have n2_ := Aside0.mk ((by rw [hg]; exact (below_size (by repeat (first | (with_reducible first | exact HB.out | apply below_alloc | apply pw_below_drewN | apply below_drew1) | exact HB.out))) : w.heap.size ≤ gb121)); have n3_ := Aside0.mk ((by rw [hg]; exact (below_size (by repeat (first | (with_reducible first | exact HB.out | apply below_alloc | apply pw_below_drewN | apply below_drew1) | exact HB.out))) : w.heap.size ≤ gb121)); clear HB; have HB := n0_; have BK121 := n1_; have GW121 := n2_; have GE121 := n3_; clear n0_ n1_ n2_ n3_; clear hb hbox hg))
 (try simp only [Act.put, List.setIfInBounds_toArray, List.set_cons_zero, List.set_cons_succ])
 go_cut [31] (fun v31 wc => ∃ (kq : Nat) (x31_2 : Bool), v31 = .bool x31_2 ∧ Aside0 (tube_at.j0 kq l0 a1 x31_2 = some (r1, r2, r3, r4, r5, r6, r7)) ∧ Aside0 (kq ≤ k) ∧ Aside0 (wc.heap[gb121]? = some (.cells #[.int .i64 0, .int .i64 0, .int .i64 0, .int .i64 0, .int .i64 0, .int .i64 0] 88 (0, 0))) ∧ Aside0 (Below w.heap.size w wc))
 case first =>
  have H := HC3.out
  clear HC3
  refine Or.elim (Classical.em (0 < (l0.length : Int))) (fun c5 => ?p2_) (fun c5 => ?n2_)
  case' p2_ =>
   rw [if_pos c5] at H
   have c5b0 : decide (0 < (l0.length : Int)) = true := decide_eq_true c5
   have c5b1 : decide (0 < l0.length) = true := decide_eq_true (by omega)
   clear c5
   (first | rw [c5b0] | (simp only [i64_w, i32_w]; rw [c5b0]) | skip)
   refine Or.elim (Classical.em (a1 < ((rd_T88 l0 0).f0.f0))) (fun c6 => ?p3_) (fun c6 => ?n3_)
   case' p3_ =>
    rw [if_pos c6] at H
    have c6b0 : decide (a1 < ((rd_T88 l0 0).f0.f0)) = true := decide_eq_true c6
    clear c6
    have hm1_0 := Aside0.mk trivial
   case' n3_ =>
    rw [if_neg c6] at H
    have c6b0 : decide (a1 < ((rd_T88 l0 0).f0.f0)) = false := decide_eq_false c6
    clear c6
    obtain ⟨ji7, hji7⟩ : ∃ j_ : Int, (wrap64 ((l0.length : Int) - 1)) = j_ := ⟨_, rfl⟩
    replace H : (if 0 ≤ (ji7) then (if (ji7) < (l0.length : Int) then (tube_at.j0 k l0 a1 (decide (a1 > ((rd_T88 l0 (ji7)).f0.f0)))) else (none)) else (none)) = some (r1, r2, r3, r4, r5, r6, r7) := by first | (rw [hji7] at H; exact H) | (simp only [hji7] at H ⊢; exact H)
    have hji7w : (IntKind.i64.wrap ((l0.length : Int) - 1)) = ji7 := (i64_w _).trans hji7
    refine Or.elim (Classical.em (0 ≤ (ji7))) (fun c8 => ?p4_) (fun c8 => ?n4_)
    case' p4_ =>
     rw [if_pos c8] at H
     have c8b0 : decide (0 ≤ (ji7)) = true := decide_eq_true c8
     clear c8
     refine Or.elim (Classical.em ((ji7) < (l0.length : Int))) (fun c9 => ?p5_) (fun c9 => ?n5_)
     case' p5_ =>
      rw [if_pos c9] at H
      have c9b0 : decide ((ji7) < (l0.length : Int)) = true := decide_eq_true c9
      clear c9
      have hm1_1 := Aside0.mk trivial
     case' n5_ =>
      rw [if_neg c9] at H
      exact absurd H (by simp)
    case' n4_ =>
     rw [if_neg c8] at H
     exact absurd H (by simp)
  case' n2_ =>
   rw [if_neg c5] at H
   exact absurd H (by simp)
  all_goals
   have H' := Aside0.mk H
   clear H
   have p122 : 0 ≤ (0 : Int) := (by omega)
   have q122 : 0 < (l0.length : Int) := of_decide_eq_true (by first | (with_reducible assumption) | assumption)
   obtain ⟨ad122, e122, hx122_0, hx122_1, hx122_2, hx122_3, hx122_4, hx122_5⟩ := at_T88 HR0.out 0 p122 q122
   cases e122
   have qi122 : (0 < l0.length) = True := eq_true (by omega)
   (try rw [show ((0 : Int)).toNat = 0 from rfl] at hx122_0)
   (try rw [show 0 * 6 = 0 from rfl] at hx122_0)
   (try rw [Addr.add_zero'] at hx122_0)
   (try rw [show ((0 : Int)).toNat = 0 from rfl] at hx122_1)
   (try rw [show 0 * 6 = 0 from rfl] at hx122_1)
   (try rw [Addr.add_zero'] at hx122_1)
   (try rw [show ((0 : Int)).toNat = 0 from rfl] at hx122_2)
   (try rw [show 0 * 6 = 0 from rfl] at hx122_2)
   (try rw [Addr.add_zero'] at hx122_2)
   (try rw [show ((0 : Int)).toNat = 0 from rfl] at hx122_3)
   (try rw [show 0 * 6 = 0 from rfl] at hx122_3)
   (try rw [Addr.add_zero'] at hx122_3)
   (try rw [show ((0 : Int)).toNat = 0 from rfl] at hx122_4)
   (try rw [show 0 * 6 = 0 from rfl] at hx122_4)
   (try rw [Addr.add_zero'] at hx122_4)
   (try rw [show ((0 : Int)).toNat = 0 from rfl] at hx122_5)
   (try rw [show 0 * 6 = 0 from rfl] at hx122_5)
   (try rw [Addr.add_zero'] at hx122_5)
   replace hx122_0 := (HB.out.cell (World.block_lt_of_cell? w _ hx122_0)).trans hx122_0
   replace hx122_1 := (HB.out.cell (World.block_lt_of_cell? w _ hx122_1)).trans hx122_1
   replace hx122_2 := (HB.out.cell (World.block_lt_of_cell? w _ hx122_2)).trans hx122_2
   replace hx122_3 := (HB.out.cell (World.block_lt_of_cell? w _ hx122_3)).trans hx122_3
   replace hx122_4 := (HB.out.cell (World.block_lt_of_cell? w _ hx122_4)).trans hx122_4
   replace hx122_5 := (HB.out.cell (World.block_lt_of_cell? w _ hx122_5)).trans hx122_5
   replace p122 := eq_true p122
   replace q122 := eq_true q122
   first
    | clear hm1_0
      go_wp2
      go_meet
      case rel => exact ⟨_, (true), (by first | rfl | (simp; done) | (simp [*]; done)), H', ⟨by first | omega | exact Nat.le_refl _⟩, ⟨by (with_reducible repeat (first | refine blk_drewN ?_ _ | refine blk_drew ?_ | refine blk_alloc ?_ _)); exact BK121.out⟩, ⟨by repeat (first | (with_reducible first | exact HB.out | apply below_alloc | apply pw_below_drewN | apply below_drew1 | refine below_set ?_ GE121.out) | exact HB.out)⟩⟩
    | clear hm1_1
      have p123 : 0 ≤ ((ji7) : Int) := of_decide_eq_true (by first | (with_reducible assumption) | assumption)
      have q123 : (ji7) < (l0.length : Int) := of_decide_eq_true (by first | (with_reducible assumption) | assumption)
      obtain ⟨ad123, e123, hx123_0, hx123_1, hx123_2, hx123_3, hx123_4, hx123_5⟩ := at_T88 HR0.out (ji7) p123 q123
      obtain rfl : ad122 = ad123 := (by injection e123)
      replace hx123_0 := (HB.out.cell (World.block_lt_of_cell? w _ hx123_0)).trans hx123_0
      replace hx123_1 := (HB.out.cell (World.block_lt_of_cell? w _ hx123_1)).trans hx123_1
      replace hx123_2 := (HB.out.cell (World.block_lt_of_cell? w _ hx123_2)).trans hx123_2
      replace hx123_3 := (HB.out.cell (World.block_lt_of_cell? w _ hx123_3)).trans hx123_3
      replace hx123_4 := (HB.out.cell (World.block_lt_of_cell? w _ hx123_4)).trans hx123_4
      replace hx123_5 := (HB.out.cell (World.block_lt_of_cell? w _ hx123_5)).trans hx123_5
      replace p123 := eq_true p123
      replace q123 := eq_true q123
      go_wp2
      go_meet
      case rel => exact ⟨_, (decide (a1 > ((rd_T88 l0 (ji7)).f0.f0))), (by first | rfl | (simp; done) | (simp only [← hji7] <;> (first | rfl | (simp; done))) | (simp [*]; done) | (refine congrArg Value.bool ?_; rw [Bool.eq_iff_iff]; simp only [beq_iff_eq, decide_eq_true_eq, List.length_take]; omega)), H', ⟨by first | omega | exact Nat.le_refl _⟩, ⟨by (with_reducible repeat (first | refine blk_drewN ?_ _ | refine blk_drew ?_ | refine blk_alloc ?_ _)); exact BK121.out⟩, ⟨by repeat (first | (with_reducible first | exact HB.out | apply below_alloc | apply pw_below_drewN | apply below_drew1 | refine below_set ?_ GE121.out) | exact HB.out)⟩⟩
 case rest =>
  clear HC3
  (try clear p1); (try clear q1); (try clear hx1); (try clear qi1); (try clear p2); (try clear c5); (try clear c5b0); (try clear c5b1); (try clear c6); (try clear c6b0); (try clear p6); (try clear c8); (try clear c8b0); (try clear c9); (try clear c9b0); (try clear hx122_0); (try clear hx122_1); (try clear hx122_2); (try clear hx122_3); (try clear hx122_4); (try clear hx122_5); (try clear hx123_0); (try clear hx123_1); (try clear hx123_2); (try clear hx123_3); (try clear hx123_4); (try clear hx123_5); (try clear p122); (try clear p123); (try clear q122); (try clear q123)
  obtain ⟨kq, x31_2, rfl, HA, HJ2, BK121, HB⟩ := hcut
  cases kq with
  | zero => exact absurd HA.out (by simp [tube_at.j0])
  | succ kj2 =>
   have H := HA.out
   clear HA
   simp only [tube_at.j0] at H
   by_cases c10 : x31_2 = true
   · subst c10
     have H1 : (some (0, 0, 0, 0, 0, 0, 12)) = some (r1, r2, r3, r4, r5, r6, r7) := by rw [if_pos rfl] at H; exact H
     clear H
     have H := H1
     clear H1
     simp only [Option.some.injEq, Prod.mk.injEq] at H
     obtain ⟨rfl, rfl, rfl, rfl, rfl, rfl, rfl⟩ := H
     have hczzc1 : wc.cell? ⟨gb121, 0, none⟩ = some (.int .i64 0) := (blk_cell BK121.out 0).trans rfl
     have hczzc2 : wc.cell? ⟨gb121, 1, none⟩ = some (.int .i64 0) := (blk_cell BK121.out 1).trans rfl
     have hczzc3 : wc.cell? ⟨gb121, 2, none⟩ = some (.int .i64 0) := (blk_cell BK121.out 2).trans rfl
     have hczzc4 : wc.cell? ⟨gb121, 3, none⟩ = some (.int .i64 0) := (blk_cell BK121.out 3).trans rfl
     have hczzc5 : wc.cell? ⟨gb121, 4, none⟩ = some (.int .i64 0) := (blk_cell BK121.out 4).trans rfl
     have hczzc6 : wc.cell? ⟨gb121, 5, none⟩ = some (.int .i64 0) := (blk_cell BK121.out 5).trans rfl
     have hfzzc1 := blk_frozen BK121.out 0
     have hfzzc2 := blk_frozen BK121.out 1
     have hfzzc3 := blk_frozen BK121.out 2
     have hfzzc4 := blk_frozen BK121.out 3
     have hfzzc5 := blk_frozen BK121.out 4
     have hfzzc6 := blk_frozen BK121.out 5
     go_wp2
     refine bodyPost_ret (results_ct rfl _ _ gb121 88 #[.int .i64 0, .int .i64 0, .int .i64 0, .int .i64 0, .int .i64 0, .int .i64 0] (0, 0) _ rfl (by (with_reducible repeat (first | refine blk_drewN ?_ _ | refine blk_drew ?_ | refine blk_alloc ?_ _)); refine blk_put (cs := #[.int .i64 0, .int .i64 0, .int .i64 0, .int .i64 0, .int .i64 0, .int .i64 0]) ?_ 5 _ rfl; (with_reducible repeat (first | refine blk_drewN ?_ _ | refine blk_drew ?_ | refine blk_alloc ?_ _)); refine blk_put (cs := #[.int .i64 0, .int .i64 0, .int .i64 0, .int .i64 0, .int .i64 0, .int .i64 0]) ?_ 4 _ rfl; (with_reducible repeat (first | refine blk_drewN ?_ _ | refine blk_drew ?_ | refine blk_alloc ?_ _)); refine blk_put (cs := #[.int .i64 0, .int .i64 0, .int .i64 0, .int .i64 0, .int .i64 0, .int .i64 0]) ?_ 3 _ rfl; (with_reducible repeat (first | refine blk_drewN ?_ _ | refine blk_drew ?_ | refine blk_alloc ?_ _)); refine blk_put (cs := #[.int .i64 0, .int .i64 0, .int .i64 0, .int .i64 0, .int .i64 0, .int .i64 0]) ?_ 2 _ rfl; (with_reducible repeat (first | refine blk_drewN ?_ _ | refine blk_drew ?_ | refine blk_alloc ?_ _)); refine blk_put (cs := #[.int .i64 0, .int .i64 0, .int .i64 0, .int .i64 0, .int .i64 0, .int .i64 0]) ?_ 1 _ rfl; (with_reducible repeat (first | refine blk_drewN ?_ _ | refine blk_drew ?_ | refine blk_alloc ?_ _)); refine blk_put (cs := #[.int .i64 0, .int .i64 0, .int .i64 0, .int .i64 0, .int .i64 0, .int .i64 0]) ?_ 0 _ rfl; (with_reducible repeat (first | refine blk_drewN ?_ _ | refine blk_drew ?_ | refine blk_alloc ?_ _)); exact BK121.out) Try.underlying88 rfl (by kernel_rfl)) rfl ?_
     exact ⟨by first | rfl | (simp [errW_none, errW_some] <;> rfl) | (simp [*, errW_none, errW_some] <;> rfl), by repeat (first | (with_reducible first | exact HB.out | apply below_alloc | apply pw_below_drewN | apply below_drew1 | refine below_set ?_ GE121.out) | exact HB.out)⟩
   · replace c10 := Bool.eq_false_iff.mpr c10
     subst c10
     have H1 : (tube_at.l0 kj2 l0 a1 0) = some (r1, r2, r3, r4, r5, r6, r7) := by rw [if_neg (show ¬ (false = true) by decide)] at H; exact H
     clear H
     have H := H1
     clear H1
     have HC12 := Aside0.mk H
     clear H
     go_upto_block 0 with (fail)
     go_cut [6] (fun v6 wc => ∃ (kq : Nat) (x6_11 : Int), v6 = .int .i64 x6_11 ∧ Aside0 (tube_at.j2 kq l0 a1 x6_11 = some (r1, r2, r3, r4, r5, r6, r7)) ∧ Aside0 (kq ≤ kj2) ∧ Aside0 (wc.heap[gb121]? = some (.cells #[.int .i64 0, .int .i64 0, .int .i64 0, .int .i64 0, .int .i64 0, .int .i64 0] 88 (0, 0))) ∧ Aside0 (Below w.heap.size w wc))
     case first =>
      have H := HC12.out
      clear HC12
      have H' := Aside0.mk H
      clear H
      go_wp2
      go_loopg [6] kj2 (fun kq v6 w' => ∃ (x6_2 : Int), v6 = .int .i64 x6_2 ∧ Aside0 (tube_at.l0 kq l0 a1 x6_2 = some (r1, r2, r3, r4, r5, r6, r7)) ∧ Aside0 (kq ≤ kj2) ∧ Aside0 (w'.heap[gb121]? = some (.cells #[.int .i64 0, .int .i64 0, .int .i64 0, .int .i64 0, .int .i64 0, .int .i64 0] 88 (0, 0))) ∧ Aside0 (Below w.heap.size w w'))
      case atStart => exact ⟨(0), (by first | rfl | (simp; done) | (simp [*]; done)), H', ⟨Nat.le_refl _⟩, ⟨by (with_reducible repeat (first | refine blk_drewN ?_ _ | refine blk_drew ?_ | refine blk_alloc ?_ _)); exact BK121.out⟩, ⟨by repeat (first | (with_reducible first | exact HB.out | apply below_alloc | apply pw_below_drewN | apply below_drew1 | refine below_set ?_ GE121.out) | exact HB.out)⟩⟩
      case round =>
       clear H'
       (try clear c1); (try clear p1); (try clear q1); (try clear hx1); (try clear qi1); (try clear p2); (try clear c5); (try clear c5b0); (try clear c5b1); (try clear c6); (try clear c6b0); (try clear p6); (try clear c8); (try clear c8b0); (try clear c9); (try clear c9b0); (try clear c10); (try clear p12); (try clear q12); (try clear hx12); (try clear qi12); (try clear hczzc1); (try clear hczzc2); (try clear hczzc3); (try clear hczzc4); (try clear hczzc5); (try clear hczzc6); (try clear hfzzc1); (try clear hfzzc2); (try clear hfzzc3); (try clear hfzzc4); (try clear hfzzc5); (try clear hfzzc6); (try clear hx122_0); (try clear hx122_1); (try clear hx122_2); (try clear hx122_3); (try clear hx122_4); (try clear hx122_5); (try clear hx123_0)
       (try clear hx123_1); (try clear hx123_2); (try clear hx123_3); (try clear hx123_4); (try clear hx123_5); (try clear p1); (try clear p122); (try clear p123); (try clear p2); (try clear p6); (try clear q1); (try clear q122); (try clear q123)
       obtain ⟨x6_2, rfl, HA, HK2, BK121, HB⟩ := hrel
       cases gk with
       | zero => exact absurd HA.out (by simp [tube_at.l0])
       | succ k2 =>
        have H := HA.out
        clear HA
        simp only [tube_at.l0] at H
        refine Or.elim (Classical.em ((wrap64 (x6_2 + 1)) < (l0.length : Int))) (fun c13 => ?p7_) (fun c13 => ?n7_)
        case' p7_ =>
         rw [if_pos c13] at H
         have c13b0 : decide ((wrap64 (x6_2 + 1)) < (l0.length : Int)) = true := decide_eq_true c13
         clear c13
         (first | rw [c13b0] | (simp only [i64_w, i32_w]; rw [c13b0]) | skip)
         obtain ⟨ji14, hji14⟩ : ∃ j_ : Int, (wrap64 (x6_2 + 1)) = j_ := ⟨_, rfl⟩
         replace H : (if 0 ≤ (ji14) then (if ((rd_T88 l0 (ji14)).f0.f0) ≤ a1 then (tube_at.l0 k2 l0 a1 ji14) else (tube_at.j2 k2 l0 a1 x6_2)) else (none)) = some (r1, r2, r3, r4, r5, r6, r7) := by first | (rw [hji14] at H; exact H) | (simp only [hji14] at H ⊢; exact H)
         (try rw [hji14] at c13b0)
         have hji14w : (IntKind.i64.wrap (x6_2 + 1)) = ji14 := (i64_w _).trans hji14
         refine Or.elim (Classical.em (0 ≤ (ji14))) (fun c15 => ?p8_) (fun c15 => ?n8_)
         case' p8_ =>
          rw [if_pos c15] at H
          have c15b0 : decide (0 ≤ (ji14)) = true := decide_eq_true c15
          clear c15
          refine Or.elim (Classical.em (((rd_T88 l0 (ji14)).f0.f0) ≤ a1)) (fun c16 => ?p9_) (fun c16 => ?n9_)
          case' p9_ =>
           rw [if_pos c16] at H
           have c16b0 : decide (((rd_T88 l0 (ji14)).f0.f0) ≤ a1) = true := decide_eq_true c16
           clear c16
           have hm6_0 := Aside0.mk trivial
          case' n9_ =>
           rw [if_neg c16] at H
           have c16b0 : decide (((rd_T88 l0 (ji14)).f0.f0) ≤ a1) = false := decide_eq_false c16
           clear c16
           have hm6_1 := Aside0.mk trivial
         case' n8_ =>
          rw [if_neg c15] at H
          exact absurd H (by simp)
        case' n7_ =>
         rw [if_neg c13] at H
         have c13b0 : decide ((wrap64 (x6_2 + 1)) < (l0.length : Int)) = false := decide_eq_false c13
         clear c13
         (first | rw [c13b0] | (simp only [i64_w, i32_w]; rw [c13b0]) | skip)
         have hm6_2 := Aside0.mk trivial
        all_goals
         have H' := Aside0.mk H
         clear H
         first
          | (first | (have _hm := hm6_0) | (have _hm := hm6_1))
            have p124 : 0 ≤ ((ji14) : Int) := of_decide_eq_true (by first | (with_reducible assumption) | assumption)
            have q124 : (ji14) < (l0.length : Int) := of_decide_eq_true (by first | (with_reducible assumption) | assumption)
            obtain ⟨ad124, e124, hx124_0, hx124_1, hx124_2, hx124_3, hx124_4, hx124_5⟩ := at_T88 HR0.out (ji14) p124 q124
            cases e124
            replace hx124_0 := (HB.out.cell (World.block_lt_of_cell? w _ hx124_0)).trans hx124_0
            replace hx124_1 := (HB.out.cell (World.block_lt_of_cell? w _ hx124_1)).trans hx124_1
            replace hx124_2 := (HB.out.cell (World.block_lt_of_cell? w _ hx124_2)).trans hx124_2
            replace hx124_3 := (HB.out.cell (World.block_lt_of_cell? w _ hx124_3)).trans hx124_3
            replace hx124_4 := (HB.out.cell (World.block_lt_of_cell? w _ hx124_4)).trans hx124_4
            replace hx124_5 := (HB.out.cell (World.block_lt_of_cell? w _ hx124_5)).trans hx124_5
            replace p124 := eq_true p124
            replace q124 := eq_true q124
            go_wp2
            first
             | clear hm6_0
               first | go_roundg k2 | (subst hji14; go_roundg k2)
               case measure => have := HJ2.out; have := HK2.out; omega
               case rel => exact ⟨(ji14), (by first | rfl | (simp; done) | (simp only [← hji14] <;> (first | rfl | (simp; done))) | (simp [*]; done) | (refine congrArg Value.bool ?_; rw [Bool.eq_iff_iff]; simp only [beq_iff_eq, decide_eq_true_eq, List.length_take]; omega)), H', ⟨by have := HJ2.out; have := HK2.out; omega⟩, ⟨by (with_reducible repeat (first | refine blk_drewN ?_ _ | refine blk_drew ?_ | refine blk_alloc ?_ _)); exact BK121.out⟩, ⟨by repeat (first | (with_reducible first | exact HB.out | apply below_alloc | apply pw_below_drewN | apply below_drew1 | refine below_set ?_ GE121.out) | exact HB.out)⟩⟩
             | clear hm6_1
               go_meet
               case rel => exact ⟨_, (x6_2), (by first | rfl | (simp; done) | (simp [*]; done)), H', ⟨by have := HJ2.out; have := HK2.out; first | omega | exact Nat.le_refl _⟩, ⟨by (with_reducible repeat (first | refine blk_drewN ?_ _ | refine blk_drew ?_ | refine blk_alloc ?_ _)); exact BK121.out⟩, ⟨by repeat (first | (with_reducible first | exact HB.out | apply below_alloc | apply pw_below_drewN | apply below_drew1 | refine below_set ?_ GE121.out) | exact HB.out)⟩⟩
          | clear hm6_2
            go_wp2
            go_meet
            case rel => exact ⟨_, (x6_2), (by first | rfl | (simp; done) | (simp [*]; done)), H', ⟨by have := HJ2.out; have := HK2.out; first | omega | exact Nat.le_refl _⟩, ⟨by (with_reducible repeat (first | refine blk_drewN ?_ _ | refine blk_drew ?_ | refine blk_alloc ?_ _)); exact BK121.out⟩, ⟨by repeat (first | (with_reducible first | exact HB.out | apply below_alloc | apply pw_below_drewN | apply below_drew1 | refine below_set ?_ GE121.out) | exact HB.out)⟩⟩
     case rest =>
      clear HC12
      (try clear c1); (try clear p1); (try clear q1); (try clear hx1); (try clear qi1); (try clear p2); (try clear c5); (try clear c5b0); (try clear c5b1); (try clear c6); (try clear c6b0); (try clear p6); (try clear c8); (try clear c8b0); (try clear c9); (try clear c9b0); (try clear c10); (try clear p12); (try clear q12); (try clear hx12); (try clear qi12); (try clear c13); (try clear c13b0); (try clear c15); (try clear c15b0); (try clear c16); (try clear c16b0); (try clear hczzc1); (try clear hczzc2); (try clear hczzc3); (try clear hczzc4); (try clear hczzc5); (try clear hczzc6); (try clear hfzzc1); (try clear hfzzc2); (try clear hfzzc3); (try clear hfzzc4); (try clear hfzzc5); (try clear hfzzc6); (try clear hx122_0)
      (try clear hx122_1); (try clear hx122_2); (try clear hx122_3); (try clear hx122_4); (try clear hx122_5); (try clear hx123_0); (try clear hx123_1); (try clear hx123_2); (try clear hx123_3); (try clear hx123_4); (try clear hx123_5); (try clear hx124_0); (try clear hx124_1); (try clear hx124_2); (try clear hx124_3); (try clear hx124_4); (try clear hx124_5); (try clear p1); (try clear p12); (try clear p122); (try clear p123); (try clear p124); (try clear p2); (try clear p6); (try clear q1); (try clear q12); (try clear q122); (try clear q123); (try clear q124)
      obtain ⟨kq, x6_11, rfl, HA, HJ11, BK121, HB⟩ := hcut
      cases kq with
      | zero => exact absurd HA.out (by simp [tube_at.j2])
      | succ kj11 =>
       have H := HA.out
       clear HA
       simp only [tube_at.j2] at H
       by_cases c17 : 0 ≤ x6_11
       · rw [if_pos c17] at H
         have c17b0 : decide (0 ≤ x6_11) = true := decide_eq_true c17
         clear c17
         by_cases c18 : x6_11 < (l0.length : Int)
         · rw [if_pos c18] at H
           have c18b0 : decide (x6_11 < (l0.length : Int)) = true := decide_eq_true c18
           clear c18
           by_cases c19 : ((rd_T88 l0 x6_11).f0.f0) = a1
           · rw [if_pos c19] at H
             have c19b0 : (((rd_T88 l0 x6_11).f0.f0) == a1) = true := beq_iff_eq.mpr c19
             have c19b1 : (((rd_T88 l0 x6_11).f0.f0) != a1) = false := bne_eq_false_iff_eq.mpr c19
             clear c19
             simp only [Option.some.injEq, Prod.mk.injEq] at H
             obtain ⟨rfl, rfl, rfl, rfl, rfl, rfl, rfl⟩ := H
             have p125 : 0 ≤ (x6_11 : Int) := of_decide_eq_true (by first | (with_reducible assumption) | assumption)
             have q125 : x6_11 < (l0.length : Int) := of_decide_eq_true (by first | (with_reducible assumption) | assumption)
             obtain ⟨ad125, e125, hx125_0, hx125_1, hx125_2, hx125_3, hx125_4, hx125_5⟩ := at_T88 HR0.out x6_11 p125 q125
             cases e125
             replace hx125_0 := (HB.out.cell (World.block_lt_of_cell? w _ hx125_0)).trans hx125_0
             replace hx125_1 := (HB.out.cell (World.block_lt_of_cell? w _ hx125_1)).trans hx125_1
             replace hx125_2 := (HB.out.cell (World.block_lt_of_cell? w _ hx125_2)).trans hx125_2
             replace hx125_3 := (HB.out.cell (World.block_lt_of_cell? w _ hx125_3)).trans hx125_3
             replace hx125_4 := (HB.out.cell (World.block_lt_of_cell? w _ hx125_4)).trans hx125_4
             replace hx125_5 := (HB.out.cell (World.block_lt_of_cell? w _ hx125_5)).trans hx125_5
             replace p125 := eq_true p125
             replace q125 := eq_true q125
             go_wp2_with (first | ((with_reducible refine gate_dst (N := 7) rfl ?_); (try (refine gate_guard (by rfl) ?_; dsimp only)); refine box_event ?hg (N := 7) ?hd (cs := #[.int .i64 0, .int .i64 0, .int .i64 0, .int .i64 0, .int .i64 0, .int .i64 0]) (t := 88) ?hr ?_; (case hd => rfl); (case hg => rfl); (case hr => first | (go_simp; done) | (go_simp; rfl)); intro gb126 hg wxa0781 hbox hb; have n0_ := Aside0.mk (blk_below (g := gb121) (o := .cells #[.int .i64 0, .int .i64 0, .int .i64 0, .int .i64 0, .int .i64 0, .int .i64 0] 88 (0, 0)) (by (with_reducible repeat (first | refine blk_drewN ?_ _ | refine blk_drew ?_ | refine blk_alloc ?_ _)); exact BK121.out) hb); have n1_ := Aside0.mk (below_step (by repeat (first | (with_reducible first | exact HB.out | apply below_alloc | apply pw_below_drewN | apply below_drew1 | refine below_set ?_ GE121.out) | exact HB.out)) hb); have n2_ := Aside0.mk (hbox); have n3_ := Aside0.mk ((by rw [hg]; exact (below_size (by repeat (first | (with_reducible first | exact HB.out | apply below_alloc | apply pw_below_drewN | apply below_drew1 | refine below_set ?_ GE121.out) | exact HB.out))) : w.heap.size ≤ gb126)); have n4_ := Aside0.mk ((by rw [hg]; exact (below_size (by repeat (first | (with_reducible first | exact HB.out | apply below_alloc | apply pw_below_drewN | apply below_drew1 | refine below_set ?_ GE121.out) | exact HB.out))) : w.heap.size ≤ gb126)); have n5_ := Aside0.mk ((by rw [hg]; exact Nat.ne_of_lt (blk_lt (g := gb121) (o := .cells #[.int .i64 0, .int .i64 0, .int .i64 0, .int .i64 0, .int .i64 0, .int .i64 0] 88 (0, 0)) (by (with_reducible repeat (first | refine blk_drewN ?_ _ | refine blk_drew ?_ | refine blk_alloc ?_ _)); exact BK121.out)) : gb121 ≠ gb126)); have n6_ := Aside0.mk ((by rw [hg]; exact Nat.ne_of_gt (blk_lt (g := gb121) (o := .cells #[.int .i64 0, .int .i64 0, .int .i64 0, .int .i64 0, .int .i64 0, .int .i64 0] 88 (0, 0)) (by (with_reducible repeat (first | refine blk_drewN ?_ _ | refine blk_drew ?_ | refine blk_alloc ?_ _)); exact BK121.out)) : gb126 ≠ gb121)); clear BK121; clear HB; have BK121 := n0_; have HB := n1_; have BK126 := n2_; have GW126 := n3_; have GE126 := n4_; have NB121_126 := n5_; have NB126_121 := n6_; clear n0_ n1_ n2_ n3_ n4_ n5_ n6_; clear hb hbox hg; have hnbxa0781 := NB126_121.out; have hncxa0781 := NB121_126.out; have hczxa0781 : wxa0781.cell? ⟨gb126, 0, none⟩ = some (.int .i64 0) := (blk_cell BK126.out 0).trans rfl; have hczxa0782 : wxa0781.cell? ⟨gb126, 1, none⟩ = some (.int .i64 0) := (blk_cell BK126.out 1).trans rfl; have hczxa0783 : wxa0781.cell? ⟨gb126, 2, none⟩ = some (.int .i64 0) := (blk_cell BK126.out 2).trans rfl; have hczxa0784 : wxa0781.cell? ⟨gb126, 3, none⟩ = some (.int .i64 0) := (blk_cell BK126.out 3).trans rfl; have hczxa0785 : wxa0781.cell? ⟨gb126, 4, none⟩ = some (.int .i64 0) := (blk_cell BK126.out 4).trans rfl; have hczxa0786 : wxa0781.cell? ⟨gb126, 5, none⟩ = some (.int .i64 0) := (blk_cell BK126.out 5).trans rfl; have hfzxa0781 := blk_frozen BK126.out 0; have hfzxa0782 := blk_frozen BK126.out 1; have hfzxa0783 := blk_frozen BK126.out 2; have hfzxa0784 := blk_frozen BK126.out 3; have hfzxa0785 := blk_frozen BK126.out 4; have hfzxa0786 := blk_frozen BK126.out 5; have hczxa0787 : wxa0781.cell? ⟨gb121, 0, none⟩ = some (.int .i64 0) := (blk_cell BK121.out 0).trans rfl; have hczxa0788 : wxa0781.cell? ⟨gb121, 1, none⟩ = some (.int .i64 0) := (blk_cell BK121.out 1).trans rfl; have hczxa0789 : wxa0781.cell? ⟨gb121, 2, none⟩ = some (.int .i64 0) := (blk_cell BK121.out 2).trans rfl; have hczxa07810 : wxa0781.cell? ⟨gb121, 3, none⟩ = some (.int .i64 0) := (blk_cell BK121.out 3).trans rfl; have hczxa07811 : wxa0781.cell? ⟨gb121, 4, none⟩ = some (.int .i64 0) := (blk_cell BK121.out 4).trans rfl; have hczxa07812 : wxa0781.cell? ⟨gb121, 5, none⟩ = some (.int .i64 0) := (blk_cell BK121.out 5).trans rfl; have hfzxa0787 := blk_frozen BK121.out 0; have hfzxa0788 := blk_frozen BK121.out 1; have hfzxa0789 := blk_frozen BK121.out 2; have hfzxa07810 := blk_frozen BK121.out 3; have hfzxa07811 := blk_frozen BK121.out 4; have hfzxa07812 := blk_frozen BK121.out 5))
             refine bodyPost_ret (results_ct rfl _ _ gb121 88 #[.int .i64 ((rd_T88 l0 x6_11).f0.f0), .int .i64 ((rd_T88 l0 x6_11).f0.f1.f0), .int .i64 ((rd_T88 l0 x6_11).f0.f1.f1), .int .i64 ((rd_T88 l0 x6_11).f0.f2), .int .i64 ((rd_T88 l0 x6_11).f1), .int .i64 ((rd_T88 l0 x6_11).f2)] (0, 0) _ rfl (by (with_reducible repeat (first | refine blk_drewN ?_ _ | refine blk_drew ?_ | refine blk_alloc ?_ _)); refine blk_put (cs := #[.int .i64 ((rd_T88 l0 x6_11).f0.f0), .int .i64 ((rd_T88 l0 x6_11).f0.f1.f0), .int .i64 ((rd_T88 l0 x6_11).f0.f1.f1), .int .i64 ((rd_T88 l0 x6_11).f0.f2), .int .i64 ((rd_T88 l0 x6_11).f1), .int .i64 0]) ?_ 5 _ rfl; (with_reducible repeat (first | refine blk_drewN ?_ _ | refine blk_drew ?_ | refine blk_alloc ?_ _)); refine blk_put (cs := #[.int .i64 ((rd_T88 l0 x6_11).f0.f0), .int .i64 ((rd_T88 l0 x6_11).f0.f1.f0), .int .i64 ((rd_T88 l0 x6_11).f0.f1.f1), .int .i64 ((rd_T88 l0 x6_11).f0.f2), .int .i64 0, .int .i64 0]) ?_ 4 _ rfl; (with_reducible repeat (first | refine blk_drewN ?_ _ | refine blk_drew ?_ | refine blk_alloc ?_ _)); refine blk_put (cs := #[.int .i64 ((rd_T88 l0 x6_11).f0.f0), .int .i64 ((rd_T88 l0 x6_11).f0.f1.f0), .int .i64 ((rd_T88 l0 x6_11).f0.f1.f1), .int .i64 0, .int .i64 0, .int .i64 0]) ?_ 3 _ rfl; (with_reducible repeat (first | refine blk_drewN ?_ _ | refine blk_drew ?_ | refine blk_alloc ?_ _)); refine blk_put (cs := #[.int .i64 ((rd_T88 l0 x6_11).f0.f0), .int .i64 ((rd_T88 l0 x6_11).f0.f1.f0), .int .i64 0, .int .i64 0, .int .i64 0, .int .i64 0]) ?_ 2 _ rfl; (with_reducible repeat (first | refine blk_drewN ?_ _ | refine blk_drew ?_ | refine blk_alloc ?_ _)); refine blk_put (cs := #[.int .i64 ((rd_T88 l0 x6_11).f0.f0), .int .i64 0, .int .i64 0, .int .i64 0, .int .i64 0, .int .i64 0]) ?_ 1 _ rfl; (with_reducible repeat (first | refine blk_drewN ?_ _ | refine blk_drew ?_ | refine blk_alloc ?_ _)); refine blk_put (cs := #[.int .i64 0, .int .i64 0, .int .i64 0, .int .i64 0, .int .i64 0, .int .i64 0]) ?_ 0 _ rfl; (with_reducible repeat (first | refine blk_drewN ?_ _ | refine blk_drew ?_ | refine blk_alloc ?_ _)); refine blk_far ?_ NB121_126.out _; (with_reducible repeat (first | refine blk_drewN ?_ _ | refine blk_drew ?_ | refine blk_alloc ?_ _)); refine blk_far ?_ NB121_126.out _; (with_reducible repeat (first | refine blk_drewN ?_ _ | refine blk_drew ?_ | refine blk_alloc ?_ _)); refine blk_far ?_ NB121_126.out _; (with_reducible repeat (first | refine blk_drewN ?_ _ | refine blk_drew ?_ | refine blk_alloc ?_ _)); refine blk_far ?_ NB121_126.out _; (with_reducible repeat (first | refine blk_drewN ?_ _ | refine blk_drew ?_ | refine blk_alloc ?_ _)); refine blk_far ?_ NB121_126.out _; (with_reducible repeat (first | refine blk_drewN ?_ _ | refine blk_drew ?_ | refine blk_alloc ?_ _)); refine blk_far ?_ NB121_126.out _; (with_reducible repeat (first | refine blk_drewN ?_ _ | refine blk_drew ?_ | refine blk_alloc ?_ _)); exact BK121.out) Try.underlying88 rfl (by kernel_rfl)) rfl ?_
             exact ⟨by first | rfl | (simp [errW_none, errW_some] <;> rfl) | (simp [*, errW_none, errW_some] <;> rfl), by repeat (first | (with_reducible first | exact HB.out | apply below_alloc | apply pw_below_drewN | apply below_drew1 | refine below_set ?_ GE121.out | refine below_set ?_ GE126.out) | exact HB.out)⟩
           · rw [if_neg c19] at H
             have c19b0 : (((rd_T88 l0 x6_11).f0.f0) == a1) = false := beq_eq_false_iff_ne.mpr c19
             have c19b1 : (((rd_T88 l0 x6_11).f0.f0) != a1) = true := bne_iff_ne.mpr c19
             obtain ⟨ji24, hji24⟩ : ∃ j_ : Int, (wrap64 (x6_11 + 1)) = j_ := ⟨_, rfl⟩
             replace H : (if 0 ≤ (ji24) then (if (ji24) < (l0.length : Int) then ((plane_Toward.f kj11 ((rd_T88 l0 x6_11).f0.f1.f0) ((rd_T88 l0 x6_11).f0.f1.f1) ((rd_T88 l0 (ji24)).f0.f1.f0) ((rd_T88 l0 (ji24)).f0.f1.f1) (wrap64 (a1 - ((rd_T88 l0 x6_11).f0.f0))) (wrap64 (((rd_T88 l0 (ji24)).f0.f0) - ((rd_T88 l0 x6_11).f0.f0)))).bind fun bt129 => ((tube_between.f kj11 ((rd_T88 l0 x6_11).f0.f2) ((rd_T88 l0 (ji24)).f0.f2) (wrap64 (a1 - ((rd_T88 l0 x6_11).f0.f0))) (wrap64 (((rd_T88 l0 (ji24)).f0.f0) - ((rd_T88 l0 x6_11).f0.f0)))).bind fun t133 => ((tube_above.f kj11 ((rd_T88 l0 x6_11).f1) ((rd_T88 l0 (ji24)).f1) (wrap64 (a1 - ((rd_T88 l0 x6_11).f0.f0))) (wrap64 (((rd_T88 l0 (ji24)).f0.f0) - ((rd_T88 l0 x6_11).f0.f0)))).bind fun t134 => ((tube_above.f kj11 ((rd_T88 l0 x6_11).f2) ((rd_T88 l0 (ji24)).f2) (wrap64 (a1 - ((rd_T88 l0 x6_11).f0.f0))) (wrap64 (((rd_T88 l0 (ji24)).f0.f0) - ((rd_T88 l0 x6_11).f0.f0)))).bind fun t135 => (some (a1, bt129.1, bt129.2.1, t133, t134, t135, 0)))))) else (none)) else (none)) = some (r1, r2, r3, r4, r5, r6, r7) := by first | (rw [hji24] at H; exact H) | (simp only [hji24] at H ⊢; exact H)
             have hji24w : (IntKind.i64.wrap (x6_11 + 1)) = ji24 := (i64_w _).trans hji24
             by_cases c25 : 0 ≤ (ji24)
             · rw [if_pos c25] at H
               have c25b0 : decide (0 ≤ (ji24)) = true := decide_eq_true c25
               clear c25
               by_cases c26 : (ji24) < (l0.length : Int)
               · rw [if_pos c26] at H
                 have c26b0 : decide ((ji24) < (l0.length : Int)) = true := decide_eq_true c26
                 clear c26
                 replace H := Option.bind_eq_some_iff.mp H
                 obtain ⟨⟨t129, t130, t131⟩, A270, H⟩ := H
                 replace H : ((tube_between.f kj11 ((rd_T88 l0 x6_11).f0.f2) ((rd_T88 l0 (ji24)).f0.f2) (wrap64 (a1 - ((rd_T88 l0 x6_11).f0.f0))) (wrap64 (((rd_T88 l0 (ji24)).f0.f0) - ((rd_T88 l0 x6_11).f0.f0)))).bind fun t133 => ((tube_above.f kj11 ((rd_T88 l0 x6_11).f1) ((rd_T88 l0 (ji24)).f1) (wrap64 (a1 - ((rd_T88 l0 x6_11).f0.f0))) (wrap64 (((rd_T88 l0 (ji24)).f0.f0) - ((rd_T88 l0 x6_11).f0.f0)))).bind fun t134 => ((tube_above.f kj11 ((rd_T88 l0 x6_11).f2) ((rd_T88 l0 (ji24)).f2) (wrap64 (a1 - ((rd_T88 l0 x6_11).f0.f0))) (wrap64 (((rd_T88 l0 (ji24)).f0.f0) - ((rd_T88 l0 x6_11).f0.f0)))).bind fun t135 => (some (a1, t129, t130, t133, t134, t135, 0))))) = some (r1, r2, r3, r4, r5, r6, r7) := H
                 have A27 := Aside0.mk A270
                 clear A270
                 replace H := Option.bind_eq_some_iff.mp H
                 obtain ⟨t133, A280, H⟩ := H
                 replace H : ((tube_above.f kj11 ((rd_T88 l0 x6_11).f1) ((rd_T88 l0 (ji24)).f1) (wrap64 (a1 - ((rd_T88 l0 x6_11).f0.f0))) (wrap64 (((rd_T88 l0 (ji24)).f0.f0) - ((rd_T88 l0 x6_11).f0.f0)))).bind fun t134 => ((tube_above.f kj11 ((rd_T88 l0 x6_11).f2) ((rd_T88 l0 (ji24)).f2) (wrap64 (a1 - ((rd_T88 l0 x6_11).f0.f0))) (wrap64 (((rd_T88 l0 (ji24)).f0.f0) - ((rd_T88 l0 x6_11).f0.f0)))).bind fun t135 => (some (a1, t129, t130, t133, t134, t135, 0)))) = some (r1, r2, r3, r4, r5, r6, r7) := H
                 have A28 := Aside0.mk A280
                 clear A280
                 replace H := Option.bind_eq_some_iff.mp H
                 obtain ⟨t134, A290, H⟩ := H
                 replace H : ((tube_above.f kj11 ((rd_T88 l0 x6_11).f2) ((rd_T88 l0 (ji24)).f2) (wrap64 (a1 - ((rd_T88 l0 x6_11).f0.f0))) (wrap64 (((rd_T88 l0 (ji24)).f0.f0) - ((rd_T88 l0 x6_11).f0.f0)))).bind fun t135 => (some (a1, t129, t130, t133, t134, t135, 0))) = some (r1, r2, r3, r4, r5, r6, r7) := H
                 have A29 := Aside0.mk A290
                 clear A290
                 replace H := Option.bind_eq_some_iff.mp H
                 obtain ⟨t135, A300, H⟩ := H
                 replace H : (some (a1, t129, t130, t133, t134, t135, 0)) = some (r1, r2, r3, r4, r5, r6, r7) := H
                 have A30 := Aside0.mk A300
                 clear A300
                 simp only [Option.some.injEq, Prod.mk.injEq] at H
                 obtain ⟨rfl, rfl, rfl, rfl, rfl, rfl, rfl⟩ := H
                 have p125 : 0 ≤ (x6_11 : Int) := of_decide_eq_true (by first | (with_reducible assumption) | assumption)
                 have q125 : x6_11 < (l0.length : Int) := of_decide_eq_true (by first | (with_reducible assumption) | assumption)
                 obtain ⟨ad125, e125, hx125_0, hx125_1, hx125_2, hx125_3, hx125_4, hx125_5⟩ := at_T88 HR0.out x6_11 p125 q125
                 cases e125
                 replace hx125_0 := (HB.out.cell (World.block_lt_of_cell? w _ hx125_0)).trans hx125_0
                 replace hx125_1 := (HB.out.cell (World.block_lt_of_cell? w _ hx125_1)).trans hx125_1
                 replace hx125_2 := (HB.out.cell (World.block_lt_of_cell? w _ hx125_2)).trans hx125_2
                 replace hx125_3 := (HB.out.cell (World.block_lt_of_cell? w _ hx125_3)).trans hx125_3
                 replace hx125_4 := (HB.out.cell (World.block_lt_of_cell? w _ hx125_4)).trans hx125_4
                 replace hx125_5 := (HB.out.cell (World.block_lt_of_cell? w _ hx125_5)).trans hx125_5
                 replace p125 := eq_true p125
                 replace q125 := eq_true q125
                 try go_wp2_with (first | ((with_reducible refine gate_dst (N := 7) rfl ?_); (try (refine gate_guard (by rfl) ?_; dsimp only)); refine box_event ?hg (N := 7) ?hd (cs := #[.int .i64 0, .int .i64 0, .int .i64 0, .int .i64 0, .int .i64 0, .int .i64 0]) (t := 88) ?hr ?_; (case hd => rfl); (case hg => rfl); (case hr => first | (go_simp; done) | (go_simp; rfl)); intro gb126 hg wxf3d01 hbox hb; have n0_ := Aside0.mk (blk_below (g := gb121) (o := .cells #[.int .i64 0, .int .i64 0, .int .i64 0, .int .i64 0, .int .i64 0, .int .i64 0] 88 (0, 0)) (by (with_reducible repeat (first | refine blk_drewN ?_ _ | refine blk_drew ?_ | refine blk_alloc ?_ _)); exact BK121.out) hb); have n1_ := Aside0.mk (below_step (by repeat (first | (with_reducible first | exact HB.out | apply below_alloc | apply pw_below_drewN | apply below_drew1 | refine below_set ?_ GE121.out) | exact HB.out)) hb); have n2_ := Aside0.mk (hbox); have n3_ := Aside0.mk ((by rw [hg]; exact (below_size (by repeat (first | (with_reducible first | exact HB.out | apply below_alloc | apply pw_below_drewN | apply below_drew1 | refine below_set ?_ GE121.out) | exact HB.out))) : w.heap.size ≤ gb126)); have n4_ := Aside0.mk ((by rw [hg]; exact (below_size (by repeat (first | (with_reducible first | exact HB.out | apply below_alloc | apply pw_below_drewN | apply below_drew1 | refine below_set ?_ GE121.out) | exact HB.out))) : w.heap.size ≤ gb126)); have n5_ := Aside0.mk ((by rw [hg]; exact Nat.ne_of_lt (blk_lt (g := gb121) (o := .cells #[.int .i64 0, .int .i64 0, .int .i64 0, .int .i64 0, .int .i64 0, .int .i64 0] 88 (0, 0)) (by (with_reducible repeat (first | refine blk_drewN ?_ _ | refine blk_drew ?_ | refine blk_alloc ?_ _)); exact BK121.out)) : gb121 ≠ gb126)); have n6_ := Aside0.mk ((by rw [hg]; exact Nat.ne_of_gt (blk_lt (g := gb121) (o := .cells #[.int .i64 0, .int .i64 0, .int .i64 0, .int .i64 0, .int .i64 0, .int .i64 0] 88 (0, 0)) (by (with_reducible repeat (first | refine blk_drewN ?_ _ | refine blk_drew ?_ | refine blk_alloc ?_ _)); exact BK121.out)) : gb126 ≠ gb121)); clear BK121; clear HB; have BK121 := n0_; have HB := n1_; have BK126 := n2_; have GW126 := n3_; have GE126 := n4_; have NB121_126 := n5_; have NB126_121 := n6_; clear n0_ n1_ n2_ n3_ n4_ n5_ n6_; clear hb hbox hg; have hnbxf3d01 := NB126_121.out; have hncxf3d01 := NB121_126.out; have hczxf3d01 : wxf3d01.cell? ⟨gb126, 0, none⟩ = some (.int .i64 0) := (blk_cell BK126.out 0).trans rfl; have hczxf3d02 : wxf3d01.cell? ⟨gb126, 1, none⟩ = some (.int .i64 0) := (blk_cell BK126.out 1).trans rfl; have hczxf3d03 : wxf3d01.cell? ⟨gb126, 2, none⟩ = some (.int .i64 0) := (blk_cell BK126.out 2).trans rfl; have hczxf3d04 : wxf3d01.cell? ⟨gb126, 3, none⟩ = some (.int .i64 0) := (blk_cell BK126.out 3).trans rfl; have hczxf3d05 : wxf3d01.cell? ⟨gb126, 4, none⟩ = some (.int .i64 0) := (blk_cell BK126.out 4).trans rfl; have hczxf3d06 : wxf3d01.cell? ⟨gb126, 5, none⟩ = some (.int .i64 0) := (blk_cell BK126.out 5).trans rfl; have hfzxf3d01 := blk_frozen BK126.out 0; have hfzxf3d02 := blk_frozen BK126.out 1; have hfzxf3d03 := blk_frozen BK126.out 2; have hfzxf3d04 := blk_frozen BK126.out 3; have hfzxf3d05 := blk_frozen BK126.out 4; have hfzxf3d06 := blk_frozen BK126.out 5; have p127 : 0 ≤ ((ji24) : Int) := of_decide_eq_true (by first | (with_reducible assumption) | assumption); have q127 : (ji24) < (l0.length : Int) := of_decide_eq_true (by first | (with_reducible assumption) | assumption); obtain ⟨ad127, e127, hx127_0, hx127_1, hx127_2, hx127_3, hx127_4, hx127_5⟩ := at_T88 HR0.out (ji24) p127 q127; obtain rfl : ad125 = ad127 := (by injection e127); have hn127_0 : ad125.block ≠ gb126 := Nat.ne_of_lt (Nat.lt_of_lt_of_le (by have := World.block_lt_of_cell? _ _ hx127_0; first | rwa [add_block] at this | exact this) GW126.out); have hn127_1 : ad125.block ≠ gb126 := Nat.ne_of_lt (Nat.lt_of_lt_of_le (by have := World.block_lt_of_cell? _ _ hx127_0; first | rwa [add_block] at this | exact this) GW126.out); have hn127_2 : ad125.block ≠ gb126 := Nat.ne_of_lt (Nat.lt_of_lt_of_le (by have := World.block_lt_of_cell? _ _ hx127_0; first | rwa [add_block] at this | exact this) GW126.out); have hn127_3 : ad125.block ≠ gb126 := Nat.ne_of_lt (Nat.lt_of_lt_of_le (by have := World.block_lt_of_cell? _ _ hx127_0; first | rwa [add_block] at this | exact this) GW126.out); have hn127_4 : ad125.block ≠ gb126 := Nat.ne_of_lt (Nat.lt_of_lt_of_le (by have := World.block_lt_of_cell? _ _ hx127_0; first | rwa [add_block] at this | exact this) GW126.out); have hn127_5 : ad125.block ≠ gb126 := Nat.ne_of_lt (Nat.lt_of_lt_of_le (by have := World.block_lt_of_cell? _ _ hx127_0; first | rwa [add_block] at this | exact this) GW126.out); replace hx127_0 := (HB.out.cell (World.block_lt_of_cell? w _ hx127_0)).trans hx127_0; replace hx127_1 := (HB.out.cell (World.block_lt_of_cell? w _ hx127_1)).trans hx127_1; replace hx127_2 := (HB.out.cell (World.block_lt_of_cell? w _ hx127_2)).trans hx127_2; replace hx127_3 := (HB.out.cell (World.block_lt_of_cell? w _ hx127_3)).trans hx127_3; replace hx127_4 := (HB.out.cell (World.block_lt_of_cell? w _ hx127_4)).trans hx127_4; replace hx127_5 := (HB.out.cell (World.block_lt_of_cell? w _ hx127_5)).trans hx127_5; replace hx127_0 := (cell_far (p := ⟨gb126, 0, none⟩) (by first | (rw [add_block]; exact hn127_0) | (show (Addr.add _ _).block ≠ _; rw [add_block]; exact hn127_0) | exact hn127_0) (.int .i64 ((rd_T88 l0 x6_11).f0.f0))).trans hx127_0; replace hx127_1 := (cell_far (p := ⟨gb126, 0, none⟩) (by first | (rw [add_block]; exact hn127_0) | (show (Addr.add _ _).block ≠ _; rw [add_block]; exact hn127_0) | exact hn127_0) (.int .i64 ((rd_T88 l0 x6_11).f0.f0))).trans hx127_1; replace hx127_2 := (cell_far (p := ⟨gb126, 0, none⟩) (by first | (rw [add_block]; exact hn127_0) | (show (Addr.add _ _).block ≠ _; rw [add_block]; exact hn127_0) | exact hn127_0) (.int .i64 ((rd_T88 l0 x6_11).f0.f0))).trans hx127_2; replace hx127_3 := (cell_far (p := ⟨gb126, 0, none⟩) (by first | (rw [add_block]; exact hn127_0) | (show (Addr.add _ _).block ≠ _; rw [add_block]; exact hn127_0) | exact hn127_0) (.int .i64 ((rd_T88 l0 x6_11).f0.f0))).trans hx127_3; replace hx127_4 := (cell_far (p := ⟨gb126, 0, none⟩) (by first | (rw [add_block]; exact hn127_0) | (show (Addr.add _ _).block ≠ _; rw [add_block]; exact hn127_0) | exact hn127_0) (.int .i64 ((rd_T88 l0 x6_11).f0.f0))).trans hx127_4; replace hx127_5 := (cell_far (p := ⟨gb126, 0, none⟩) (by first | (rw [add_block]; exact hn127_0) | (show (Addr.add _ _).block ≠ _; rw [add_block]; exact hn127_0) | exact hn127_0) (.int .i64 ((rd_T88 l0 x6_11).f0.f0))).trans hx127_5; replace hx127_0 := (cell_far (p := ⟨gb126, 1, none⟩) (by first | (rw [add_block]; exact hn127_1) | (show (Addr.add _ _).block ≠ _; rw [add_block]; exact hn127_1) | exact hn127_1) (.int .i64 ((rd_T88 l0 x6_11).f0.f1.f0))).trans hx127_0; replace hx127_1 := (cell_far (p := ⟨gb126, 1, none⟩) (by first | (rw [add_block]; exact hn127_1) | (show (Addr.add _ _).block ≠ _; rw [add_block]; exact hn127_1) | exact hn127_1) (.int .i64 ((rd_T88 l0 x6_11).f0.f1.f0))).trans hx127_1; replace hx127_2 := (cell_far (p := ⟨gb126, 1, none⟩) (by first | (rw [add_block]; exact hn127_1) | (show (Addr.add _ _).block ≠ _; rw [add_block]; exact hn127_1) | exact hn127_1) (.int .i64 ((rd_T88 l0 x6_11).f0.f1.f0))).trans hx127_2; replace hx127_3 := (cell_far (p := ⟨gb126, 1, none⟩) (by first | (rw [add_block]; exact hn127_1) | (show (Addr.add _ _).block ≠ _; rw [add_block]; exact hn127_1) | exact hn127_1) (.int .i64 ((rd_T88 l0 x6_11).f0.f1.f0))).trans hx127_3; replace hx127_4 := (cell_far (p := ⟨gb126, 1, none⟩) (by first | (rw [add_block]; exact hn127_1) | (show (Addr.add _ _).block ≠ _; rw [add_block]; exact hn127_1) | exact hn127_1) (.int .i64 ((rd_T88 l0 x6_11).f0.f1.f0))).trans hx127_4; replace hx127_5 := (cell_far (p := ⟨gb126, 1, none⟩) (by first | (rw [add_block]; exact hn127_1) | (show (Addr.add _ _).block ≠ _; rw [add_block]; exact hn127_1) | exact hn127_1) (.int .i64 ((rd_T88 l0 x6_11).f0.f1.f0))).trans hx127_5; replace hx127_0 := (cell_far (p := ⟨gb126, 2, none⟩) (by first | (rw [add_block]; exact hn127_2) | (show (Addr.add _ _).block ≠ _; rw [add_block]; exact hn127_2) | exact hn127_2) (.int .i64 ((rd_T88 l0 x6_11).f0.f1.f1))).trans hx127_0; replace hx127_1 := (cell_far (p := ⟨gb126, 2, none⟩) (by first | (rw [add_block]; exact hn127_2) | (show (Addr.add _ _).block ≠ _; rw [add_block]; exact hn127_2) | exact hn127_2) (.int .i64 ((rd_T88 l0 x6_11).f0.f1.f1))).trans hx127_1; replace hx127_2 := (cell_far (p := ⟨gb126, 2, none⟩) (by first | (rw [add_block]; exact hn127_2) | (show (Addr.add _ _).block ≠ _; rw [add_block]; exact hn127_2) | exact hn127_2) (.int .i64 ((rd_T88 l0 x6_11).f0.f1.f1))).trans hx127_2; replace hx127_3 := (cell_far (p := ⟨gb126, 2, none⟩) (by first | (rw [add_block]; exact hn127_2) | (show (Addr.add _ _).block ≠ _; rw [add_block]; exact hn127_2) | exact hn127_2) (.int .i64 ((rd_T88 l0 x6_11).f0.f1.f1))).trans hx127_3; replace hx127_4 := (cell_far (p := ⟨gb126, 2, none⟩) (by first | (rw [add_block]; exact hn127_2) | (show (Addr.add _ _).block ≠ _; rw [add_block]; exact hn127_2) | exact hn127_2) (.int .i64 ((rd_T88 l0 x6_11).f0.f1.f1))).trans hx127_4; replace hx127_5 := (cell_far (p := ⟨gb126, 2, none⟩) (by first | (rw [add_block]; exact hn127_2) | (show (Addr.add _ _).block ≠ _; rw [add_block]; exact hn127_2) | exact hn127_2) (.int .i64 ((rd_T88 l0 x6_11).f0.f1.f1))).trans hx127_5; replace hx127_0 := (cell_far (p := ⟨gb126, 3, none⟩) (by first | (rw [add_block]; exact hn127_3) | (show (Addr.add _ _).block ≠ _; rw [add_block]; exact hn127_3) | exact hn127_3) (.int .i64 ((rd_T88 l0 x6_11).f0.f2))).trans hx127_0; replace hx127_1 := (cell_far (p := ⟨gb126, 3, none⟩) (by first | (rw [add_block]; exact hn127_3) | (show (Addr.add _ _).block ≠ _; rw [add_block]; exact hn127_3) | exact hn127_3) (.int .i64 ((rd_T88 l0 x6_11).f0.f2))).trans hx127_1; replace hx127_2 := (cell_far (p := ⟨gb126, 3, none⟩) (by first | (rw [add_block]; exact hn127_3) | (show (Addr.add _ _).block ≠ _; rw [add_block]; exact hn127_3) | exact hn127_3) (.int .i64 ((rd_T88 l0 x6_11).f0.f2))).trans hx127_2; replace hx127_3 := (cell_far (p := ⟨gb126, 3, none⟩) (by first | (rw [add_block]; exact hn127_3) | (show (Addr.add _ _).block ≠ _; rw [add_block]; exact hn127_3) | exact hn127_3) (.int .i64 ((rd_T88 l0 x6_11).f0.f2))).trans hx127_3; replace hx127_4 := (cell_far (p := ⟨gb126, 3, none⟩) (by first | (rw [add_block]; exact hn127_3) | (show (Addr.add _ _).block ≠ _; rw [add_block]; exact hn127_3) | exact hn127_3) (.int .i64 ((rd_T88 l0 x6_11).f0.f2))).trans hx127_4; replace hx127_5 := (cell_far (p := ⟨gb126, 3, none⟩) (by first | (rw [add_block]; exact hn127_3) | (show (Addr.add _ _).block ≠ _; rw [add_block]; exact hn127_3) | exact hn127_3) (.int .i64 ((rd_T88 l0 x6_11).f0.f2))).trans hx127_5; replace hx127_0 := (cell_far (p := ⟨gb126, 4, none⟩) (by first | (rw [add_block]; exact hn127_4) | (show (Addr.add _ _).block ≠ _; rw [add_block]; exact hn127_4) | exact hn127_4) (.int .i64 ((rd_T88 l0 x6_11).f1))).trans hx127_0; replace hx127_1 := (cell_far (p := ⟨gb126, 4, none⟩) (by first | (rw [add_block]; exact hn127_4) | (show (Addr.add _ _).block ≠ _; rw [add_block]; exact hn127_4) | exact hn127_4) (.int .i64 ((rd_T88 l0 x6_11).f1))).trans hx127_1; replace hx127_2 := (cell_far (p := ⟨gb126, 4, none⟩) (by first | (rw [add_block]; exact hn127_4) | (show (Addr.add _ _).block ≠ _; rw [add_block]; exact hn127_4) | exact hn127_4) (.int .i64 ((rd_T88 l0 x6_11).f1))).trans hx127_2; replace hx127_3 := (cell_far (p := ⟨gb126, 4, none⟩) (by first | (rw [add_block]; exact hn127_4) | (show (Addr.add _ _).block ≠ _; rw [add_block]; exact hn127_4) | exact hn127_4) (.int .i64 ((rd_T88 l0 x6_11).f1))).trans hx127_3; replace hx127_4 := (cell_far (p := ⟨gb126, 4, none⟩) (by first | (rw [add_block]; exact hn127_4) | (show (Addr.add _ _).block ≠ _; rw [add_block]; exact hn127_4) | exact hn127_4) (.int .i64 ((rd_T88 l0 x6_11).f1))).trans hx127_4; replace hx127_5 := (cell_far (p := ⟨gb126, 4, none⟩) (by first | (rw [add_block]; exact hn127_4) | (show (Addr.add _ _).block ≠ _; rw [add_block]; exact hn127_4) | exact hn127_4) (.int .i64 ((rd_T88 l0 x6_11).f1))).trans hx127_5; replace hx127_0 := (cell_far (p := ⟨gb126, 5, none⟩) (by first | (rw [add_block]; exact hn127_5) | (show (Addr.add _ _).block ≠ _; rw [add_block]; exact hn127_5) | exact hn127_5) (.int .i64 ((rd_T88 l0 x6_11).f2))).trans hx127_0; replace hx127_1 := (cell_far (p := ⟨gb126, 5, none⟩) (by first | (rw [add_block]; exact hn127_5) | (show (Addr.add _ _).block ≠ _; rw [add_block]; exact hn127_5) | exact hn127_5) (.int .i64 ((rd_T88 l0 x6_11).f2))).trans hx127_1; replace hx127_2 := (cell_far (p := ⟨gb126, 5, none⟩) (by first | (rw [add_block]; exact hn127_5) | (show (Addr.add _ _).block ≠ _; rw [add_block]; exact hn127_5) | exact hn127_5) (.int .i64 ((rd_T88 l0 x6_11).f2))).trans hx127_2; replace hx127_3 := (cell_far (p := ⟨gb126, 5, none⟩) (by first | (rw [add_block]; exact hn127_5) | (show (Addr.add _ _).block ≠ _; rw [add_block]; exact hn127_5) | exact hn127_5) (.int .i64 ((rd_T88 l0 x6_11).f2))).trans hx127_3; replace hx127_4 := (cell_far (p := ⟨gb126, 5, none⟩) (by first | (rw [add_block]; exact hn127_5) | (show (Addr.add _ _).block ≠ _; rw [add_block]; exact hn127_5) | exact hn127_5) (.int .i64 ((rd_T88 l0 x6_11).f2))).trans hx127_4; replace hx127_5 := (cell_far (p := ⟨gb126, 5, none⟩) (by first | (rw [add_block]; exact hn127_5) | (show (Addr.add _ _).block ≠ _; rw [add_block]; exact hn127_5) | exact hn127_5) (.int .i64 ((rd_T88 l0 x6_11).f2))).trans hx127_5; clear hn127_0; clear hn127_1; clear hn127_2; clear hn127_3; clear hn127_4; clear hn127_5; replace p127 := eq_true p127; replace q127 := eq_true q127) | ((with_reducible refine gate_dst (N := 8) rfl ?_); (try (refine gate_guard (by rfl) ?_; dsimp only)); refine box_event ?hg (N := 8) ?hd (cs := #[.int .i64 0, .int .i64 0, .int .i64 0, .int .i64 0, .int .i64 0, .int .i64 0]) (t := 88) ?hr ?_; (case hd => rfl); (case hg => rfl); (case hr => first | (go_simp; done) | (go_simp; rfl)); intro gb128 hg wxb4d11 hbox hb; have n0_ := Aside0.mk (blk_below (g := gb121) (o := .cells #[.int .i64 0, .int .i64 0, .int .i64 0, .int .i64 0, .int .i64 0, .int .i64 0] 88 (0, 0)) (by (with_reducible repeat (first | refine blk_drewN ?_ _ | refine blk_drew ?_ | refine blk_alloc ?_ _)); refine blk_far ?_ NB121_126.out _; (with_reducible repeat (first | refine blk_drewN ?_ _ | refine blk_drew ?_ | refine blk_alloc ?_ _)); refine blk_far ?_ NB121_126.out _; (with_reducible repeat (first | refine blk_drewN ?_ _ | refine blk_drew ?_ | refine blk_alloc ?_ _)); refine blk_far ?_ NB121_126.out _; (with_reducible repeat (first | refine blk_drewN ?_ _ | refine blk_drew ?_ | refine blk_alloc ?_ _)); refine blk_far ?_ NB121_126.out _; (with_reducible repeat (first | refine blk_drewN ?_ _ | refine blk_drew ?_ | refine blk_alloc ?_ _)); refine blk_far ?_ NB121_126.out _; (with_reducible repeat (first | refine blk_drewN ?_ _ | refine blk_drew ?_ | refine blk_alloc ?_ _)); refine blk_far ?_ NB121_126.out _; (with_reducible repeat (first | refine blk_drewN ?_ _ | refine blk_drew ?_ | refine blk_alloc ?_ _)); exact BK121.out) hb); have n1_ := Aside0.mk (blk_below (g := gb126) (o := .cells #[.int .i64 ((rd_T88 l0 x6_11).f0.f0), .int .i64 ((rd_T88 l0 x6_11).f0.f1.f0), .int .i64 ((rd_T88 l0 x6_11).f0.f1.f1), .int .i64 ((rd_T88 l0 x6_11).f0.f2), .int .i64 ((rd_T88 l0 x6_11).f1), .int .i64 ((rd_T88 l0 x6_11).f2)] 88 (0, 0)) (by (with_reducible repeat (first | refine blk_drewN ?_ _ | refine blk_drew ?_ | refine blk_alloc ?_ _)); refine blk_put (cs := #[.int .i64 ((rd_T88 l0 x6_11).f0.f0), .int .i64 ((rd_T88 l0 x6_11).f0.f1.f0), .int .i64 ((rd_T88 l0 x6_11).f0.f1.f1), .int .i64 ((rd_T88 l0 x6_11).f0.f2), .int .i64 ((rd_T88 l0 x6_11).f1), .int .i64 0]) ?_ 5 _ rfl; (with_reducible repeat (first | refine blk_drewN ?_ _ | refine blk_drew ?_ | refine blk_alloc ?_ _)); refine blk_put (cs := #[.int .i64 ((rd_T88 l0 x6_11).f0.f0), .int .i64 ((rd_T88 l0 x6_11).f0.f1.f0), .int .i64 ((rd_T88 l0 x6_11).f0.f1.f1), .int .i64 ((rd_T88 l0 x6_11).f0.f2), .int .i64 0, .int .i64 0]) ?_ 4 _ rfl; (with_reducible repeat (first | refine blk_drewN ?_ _ | refine blk_drew ?_ | refine blk_alloc ?_ _)); refine blk_put (cs := #[.int .i64 ((rd_T88 l0 x6_11).f0.f0), .int .i64 ((rd_T88 l0 x6_11).f0.f1.f0), .int .i64 ((rd_T88 l0 x6_11).f0.f1.f1), .int .i64 0, .int .i64 0, .int .i64 0]) ?_ 3 _ rfl; (with_reducible repeat (first | refine blk_drewN ?_ _ | refine blk_drew ?_ | refine blk_alloc ?_ _)); refine blk_put (cs := #[.int .i64 ((rd_T88 l0 x6_11).f0.f0), .int .i64 ((rd_T88 l0 x6_11).f0.f1.f0), .int .i64 0, .int .i64 0, .int .i64 0, .int .i64 0]) ?_ 2 _ rfl; (with_reducible repeat (first | refine blk_drewN ?_ _ | refine blk_drew ?_ | refine blk_alloc ?_ _)); refine blk_put (cs := #[.int .i64 ((rd_T88 l0 x6_11).f0.f0), .int .i64 0, .int .i64 0, .int .i64 0, .int .i64 0, .int .i64 0]) ?_ 1 _ rfl; (with_reducible repeat (first | refine blk_drewN ?_ _ | refine blk_drew ?_ | refine blk_alloc ?_ _)); refine blk_put (cs := #[.int .i64 0, .int .i64 0, .int .i64 0, .int .i64 0, .int .i64 0, .int .i64 0]) ?_ 0 _ rfl; (with_reducible repeat (first | refine blk_drewN ?_ _ | refine blk_drew ?_ | refine blk_alloc ?_ _)); exact BK126.out) hb); have n2_ := Aside0.mk (below_step (by repeat (first | (with_reducible first | exact HB.out | apply below_alloc | apply pw_below_drewN | apply below_drew1 | refine below_set ?_ GE121.out | refine below_set ?_ GE126.out) | exact HB.out)) hb); have n3_ := Aside0.mk (hbox); have n4_ := Aside0.mk ((by rw [hg]; exact (below_size (by repeat (first | (with_reducible first | exact HB.out | apply below_alloc | apply pw_below_drewN | apply below_drew1 | refine below_set ?_ GE121.out | refine below_set ?_ GE126.out) | exact HB.out))) : w.heap.size ≤ gb128)); have n5_ := Aside0.mk ((by rw [hg]; exact (below_size (by repeat (first | (with_reducible first | exact HB.out | apply below_alloc | apply pw_below_drewN | apply below_drew1 | refine below_set ?_ GE121.out | refine below_set ?_ GE126.out) | exact HB.out))) : w.heap.size ≤ gb128)); have n6_ := Aside0.mk ((by rw [hg]; exact Nat.ne_of_lt (blk_lt (g := gb121) (o := .cells #[.int .i64 0, .int .i64 0, .int .i64 0, .int .i64 0, .int .i64 0, .int .i64 0] 88 (0, 0)) (by (with_reducible repeat (first | refine blk_drewN ?_ _ | refine blk_drew ?_ | refine blk_alloc ?_ _)); refine blk_far ?_ NB121_126.out _; (with_reducible repeat (first | refine blk_drewN ?_ _ | refine blk_drew ?_ | refine blk_alloc ?_ _)); refine blk_far ?_ NB121_126.out _; (with_reducible repeat (first | refine blk_drewN ?_ _ | refine blk_drew ?_ | refine blk_alloc ?_ _)); refine blk_far ?_ NB121_126.out _; (with_reducible repeat (first | refine blk_drewN ?_ _ | refine blk_drew ?_ | refine blk_alloc ?_ _)); refine blk_far ?_ NB121_126.out _; (with_reducible repeat (first | refine blk_drewN ?_ _ | refine blk_drew ?_ | refine blk_alloc ?_ _)); refine blk_far ?_ NB121_126.out _; (with_reducible repeat (first | refine blk_drewN ?_ _ | refine blk_drew ?_ | refine blk_alloc ?_ _)); refine blk_far ?_ NB121_126.out _; (with_reducible repeat (first | refine blk_drewN ?_ _ | refine blk_drew ?_ | refine blk_alloc ?_ _)); exact BK121.out)) : gb121 ≠ gb128)); have n7_ := Aside0.mk ((by rw [hg]; exact Nat.ne_of_gt (blk_lt (g := gb121) (o := .cells #[.int .i64 0, .int .i64 0, .int .i64 0, .int .i64 0, .int .i64 0, .int .i64 0] 88 (0, 0)) (by (with_reducible repeat (first | refine blk_drewN ?_ _ | refine blk_drew ?_ | refine blk_alloc ?_ _)); refine blk_far ?_ NB121_126.out _; (with_reducible repeat (first | refine blk_drewN ?_ _ | refine blk_drew ?_ | refine blk_alloc ?_ _)); refine blk_far ?_ NB121_126.out _; (with_reducible repeat (first | refine blk_drewN ?_ _ | refine blk_drew ?_ | refine blk_alloc ?_ _)); refine blk_far ?_ NB121_126.out _; (with_reducible repeat (first | refine blk_drewN ?_ _ | refine blk_drew ?_ | refine blk_alloc ?_ _)); refine blk_far ?_ NB121_126.out _; (with_reducible repeat (first | refine blk_drewN ?_ _ | refine blk_drew ?_ | refine blk_alloc ?_ _)); refine blk_far ?_ NB121_126.out _; (with_reducible repeat (first | refine blk_drewN ?_ _ | refine blk_drew ?_ | refine blk_alloc ?_ _)); refine blk_far ?_ NB121_126.out _; (with_reducible repeat (first | refine blk_drewN ?_ _ | refine blk_drew ?_ | refine blk_alloc ?_ _)); exact BK121.out)) : gb128 ≠ gb121)); have n8_ := Aside0.mk ((by rw [hg]; exact Nat.ne_of_lt (blk_lt (g := gb126) (o := .cells #[.int .i64 ((rd_T88 l0 x6_11).f0.f0), .int .i64 ((rd_T88 l0 x6_11).f0.f1.f0), .int .i64 ((rd_T88 l0 x6_11).f0.f1.f1), .int .i64 ((rd_T88 l0 x6_11).f0.f2), .int .i64 ((rd_T88 l0 x6_11).f1), .int .i64 ((rd_T88 l0 x6_11).f2)] 88 (0, 0)) (by (with_reducible repeat (first | refine blk_drewN ?_ _ | refine blk_drew ?_ | refine blk_alloc ?_ _)); refine blk_put (cs := #[.int .i64 ((rd_T88 l0 x6_11).f0.f0), .int .i64 ((rd_T88 l0 x6_11).f0.f1.f0), .int .i64 ((rd_T88 l0 x6_11).f0.f1.f1), .int .i64 ((rd_T88 l0 x6_11).f0.f2), .int .i64 ((rd_T88 l0 x6_11).f1), .int .i64 0]) ?_ 5 _ rfl; (with_reducible repeat (first | refine blk_drewN ?_ _ | refine blk_drew ?_ | refine blk_alloc ?_ _)); refine blk_put (cs := #[.int .i64 ((rd_T88 l0 x6_11).f0.f0), .int .i64 ((rd_T88 l0 x6_11).f0.f1.f0), .int .i64 ((rd_T88 l0 x6_11).f0.f1.f1), .int .i64 ((rd_T88 l0 x6_11).f0.f2), .int .i64 0, .int .i64 0]) ?_ 4 _ rfl; (with_reducible repeat (first | refine blk_drewN ?_ _ | refine blk_drew ?_ | refine blk_alloc ?_ _)); refine blk_put (cs := #[.int .i64 ((rd_T88 l0 x6_11).f0.f0), .int .i64 ((rd_T88 l0 x6_11).f0.f1.f0), .int .i64 ((rd_T88 l0 x6_11).f0.f1.f1), .int .i64 0, .int .i64 0, .int .i64 0]) ?_ 3 _ rfl; (with_reducible repeat (first | refine blk_drewN ?_ _ | refine blk_drew ?_ | refine blk_alloc ?_ _)); refine blk_put (cs := #[.int .i64 ((rd_T88 l0 x6_11).f0.f0), .int .i64 ((rd_T88 l0 x6_11).f0.f1.f0), .int .i64 0, .int .i64 0, .int .i64 0, .int .i64 0]) ?_ 2 _ rfl; (with_reducible repeat (first | refine blk_drewN ?_ _ | refine blk_drew ?_ | refine blk_alloc ?_ _)); refine blk_put (cs := #[.int .i64 ((rd_T88 l0 x6_11).f0.f0), .int .i64 0, .int .i64 0, .int .i64 0, .int .i64 0, .int .i64 0]) ?_ 1 _ rfl; (with_reducible repeat (first | refine blk_drewN ?_ _ | refine blk_drew ?_ | refine blk_alloc ?_ _)); refine blk_put (cs := #[.int .i64 0, .int .i64 0, .int .i64 0, .int .i64 0, .int .i64 0, .int .i64 0]) ?_ 0 _ rfl; (with_reducible repeat (first | refine blk_drewN ?_ _ | refine blk_drew ?_ | refine blk_alloc ?_ _)); exact BK126.out)) : gb126 ≠ gb128)); have n9_ := Aside0.mk ((by rw [hg]; exact Nat.ne_of_gt (blk_lt (g := gb126) (o := .cells #[.int .i64 ((rd_T88 l0 x6_11).f0.f0), .int .i64 ((rd_T88 l0 x6_11).f0.f1.f0), .int .i64 ((rd_T88 l0 x6_11).f0.f1.f1), .int .i64 ((rd_T88 l0 x6_11).f0.f2), .int .i64 ((rd_T88 l0 x6_11).f1), .int .i64 ((rd_T88 l0 x6_11).f2)] 88 (0, 0)) (by (with_reducible repeat (first | refine blk_drewN ?_ _ | refine blk_drew ?_ | refine blk_alloc ?_ _)); refine blk_put (cs := #[.int .i64 ((rd_T88 l0 x6_11).f0.f0), .int .i64 ((rd_T88 l0 x6_11).f0.f1.f0), .int .i64 ((rd_T88 l0 x6_11).f0.f1.f1), .int .i64 ((rd_T88 l0 x6_11).f0.f2), .int .i64 ((rd_T88 l0 x6_11).f1), .int .i64 0]) ?_ 5 _ rfl; (with_reducible repeat (first | refine blk_drewN ?_ _ | refine blk_drew ?_ | refine blk_alloc ?_ _)); refine blk_put (cs := #[.int .i64 ((rd_T88 l0 x6_11).f0.f0), .int .i64 ((rd_T88 l0 x6_11).f0.f1.f0), .int .i64 ((rd_T88 l0 x6_11).f0.f1.f1), .int .i64 ((rd_T88 l0 x6_11).f0.f2), .int .i64 0, .int .i64 0]) ?_ 4 _ rfl; (with_reducible repeat (first | refine blk_drewN ?_ _ | refine blk_drew ?_ | refine blk_alloc ?_ _)); refine blk_put (cs := #[.int .i64 ((rd_T88 l0 x6_11).f0.f0), .int .i64 ((rd_T88 l0 x6_11).f0.f1.f0), .int .i64 ((rd_T88 l0 x6_11).f0.f1.f1), .int .i64 0, .int .i64 0, .int .i64 0]) ?_ 3 _ rfl; (with_reducible repeat (first | refine blk_drewN ?_ _ | refine blk_drew ?_ | refine blk_alloc ?_ _)); refine blk_put (cs := #[.int .i64 ((rd_T88 l0 x6_11).f0.f0), .int .i64 ((rd_T88 l0 x6_11).f0.f1.f0), .int .i64 0, .int .i64 0, .int .i64 0, .int .i64 0]) ?_ 2 _ rfl; (with_reducible repeat (first | refine blk_drewN ?_ _ | refine blk_drew ?_ | refine blk_alloc ?_ _)); refine blk_put (cs := #[.int .i64 ((rd_T88 l0 x6_11).f0.f0), .int .i64 0, .int .i64 0, .int .i64 0, .int .i64 0, .int .i64 0]) ?_ 1 _ rfl; (with_reducible repeat (first | refine blk_drewN ?_ _ | refine blk_drew ?_ | refine blk_alloc ?_ _)); refine blk_put (cs := #[.int .i64 0, .int .i64 0, .int .i64 0, .int .i64 0, .int .i64 0, .int .i64 0]) ?_ 0 _ rfl; (with_reducible repeat (first | refine blk_drewN ?_ _ | refine blk_drew ?_ | refine blk_alloc ?_ _)); exact BK126.out)) : gb128 ≠ gb126)); clear BK121; clear BK126; clear HB; have BK121 := n0_; have BK126 := n1_; have HB := n2_; have BK128 := n3_; have GW128 := n4_; have GE128 := n5_; have NB121_128 := n6_; have NB128_121 := n7_; have NB126_128 := n8_; have NB128_126 := n9_; clear n0_ n1_ n2_ n3_ n4_ n5_ n6_ n7_ n8_ n9_; clear hb hbox hg; have hnbxb4d11 := NB128_121.out; have hncxb4d11 := NB121_128.out; have hnbxb4d12 := NB128_126.out; have hncxb4d12 := NB126_128.out; have hczxb4d11 : wxb4d11.cell? ⟨gb128, 0, none⟩ = some (.int .i64 0) := (blk_cell BK128.out 0).trans rfl; have hczxb4d12 : wxb4d11.cell? ⟨gb128, 1, none⟩ = some (.int .i64 0) := (blk_cell BK128.out 1).trans rfl; have hczxb4d13 : wxb4d11.cell? ⟨gb128, 2, none⟩ = some (.int .i64 0) := (blk_cell BK128.out 2).trans rfl; have hczxb4d14 : wxb4d11.cell? ⟨gb128, 3, none⟩ = some (.int .i64 0) := (blk_cell BK128.out 3).trans rfl; have hczxb4d15 : wxb4d11.cell? ⟨gb128, 4, none⟩ = some (.int .i64 0) := (blk_cell BK128.out 4).trans rfl; have hczxb4d16 : wxb4d11.cell? ⟨gb128, 5, none⟩ = some (.int .i64 0) := (blk_cell BK128.out 5).trans rfl; have hfzxb4d11 := blk_frozen BK128.out 0; have hfzxb4d12 := blk_frozen BK128.out 1; have hfzxb4d13 := blk_frozen BK128.out 2; have hfzxb4d14 := blk_frozen BK128.out 3; have hfzxb4d15 := blk_frozen BK128.out 4; have hfzxb4d16 := blk_frozen BK128.out 5))
                 have n0_ : Aside0 (((((((wxb4d11.setCell ⟨gb128, 0, none⟩ (.int .i64 ((rd_T88 l0 (ji24)).f0.f0))).setCell ⟨gb128, 1, none⟩ (.int .i64 ((rd_T88 l0 (ji24)).f0.f1.f0))).setCell ⟨gb128, 2, none⟩ (.int .i64 ((rd_T88 l0 (ji24)).f0.f1.f1))).setCell ⟨gb128, 3, none⟩ (.int .i64 ((rd_T88 l0 (ji24)).f0.f2))).setCell ⟨gb128, 4, none⟩ (.int .i64 ((rd_T88 l0 (ji24)).f1))).setCell ⟨gb128, 5, none⟩ (.int .i64 ((rd_T88 l0 (ji24)).f2))).heap[gb121]? = some (.cells #[.int .i64 0, .int .i64 0, .int .i64 0, .int .i64 0, .int .i64 0, .int .i64 0] 88 (0, 0))) := ⟨by (with_reducible repeat (first | refine blk_drewN ?_ _ | refine blk_drew ?_ | refine blk_alloc ?_ _)); refine blk_far ?_ NB121_128.out _; (with_reducible repeat (first | refine blk_drewN ?_ _ | refine blk_drew ?_ | refine blk_alloc ?_ _)); refine blk_far ?_ NB121_128.out _; (with_reducible repeat (first | refine blk_drewN ?_ _ | refine blk_drew ?_ | refine blk_alloc ?_ _)); refine blk_far ?_ NB121_128.out _; (with_reducible repeat (first | refine blk_drewN ?_ _ | refine blk_drew ?_ | refine blk_alloc ?_ _)); refine blk_far ?_ NB121_128.out _; (with_reducible repeat (first | refine blk_drewN ?_ _ | refine blk_drew ?_ | refine blk_alloc ?_ _)); refine blk_far ?_ NB121_128.out _; (with_reducible repeat (first | refine blk_drewN ?_ _ | refine blk_drew ?_ | refine blk_alloc ?_ _)); refine blk_far ?_ NB121_128.out _; (with_reducible repeat (first | refine blk_drewN ?_ _ | refine blk_drew ?_ | refine blk_alloc ?_ _)); exact BK121.out⟩
                 have n1_ : Aside0 (((((((wxb4d11.setCell ⟨gb128, 0, none⟩ (.int .i64 ((rd_T88 l0 (ji24)).f0.f0))).setCell ⟨gb128, 1, none⟩ (.int .i64 ((rd_T88 l0 (ji24)).f0.f1.f0))).setCell ⟨gb128, 2, none⟩ (.int .i64 ((rd_T88 l0 (ji24)).f0.f1.f1))).setCell ⟨gb128, 3, none⟩ (.int .i64 ((rd_T88 l0 (ji24)).f0.f2))).setCell ⟨gb128, 4, none⟩ (.int .i64 ((rd_T88 l0 (ji24)).f1))).setCell ⟨gb128, 5, none⟩ (.int .i64 ((rd_T88 l0 (ji24)).f2))).heap[gb126]? = some (.cells #[.int .i64 ((rd_T88 l0 x6_11).f0.f0), .int .i64 ((rd_T88 l0 x6_11).f0.f1.f0), .int .i64 ((rd_T88 l0 x6_11).f0.f1.f1), .int .i64 ((rd_T88 l0 x6_11).f0.f2), .int .i64 ((rd_T88 l0 x6_11).f1), .int .i64 ((rd_T88 l0 x6_11).f2)] 88 (0, 0))) := ⟨by (with_reducible repeat (first | refine blk_drewN ?_ _ | refine blk_drew ?_ | refine blk_alloc ?_ _)); refine blk_far ?_ NB126_128.out _; (with_reducible repeat (first | refine blk_drewN ?_ _ | refine blk_drew ?_ | refine blk_alloc ?_ _)); refine blk_far ?_ NB126_128.out _; (with_reducible repeat (first | refine blk_drewN ?_ _ | refine blk_drew ?_ | refine blk_alloc ?_ _)); refine blk_far ?_ NB126_128.out _; (with_reducible repeat (first | refine blk_drewN ?_ _ | refine blk_drew ?_ | refine blk_alloc ?_ _)); refine blk_far ?_ NB126_128.out _; (with_reducible repeat (first | refine blk_drewN ?_ _ | refine blk_drew ?_ | refine blk_alloc ?_ _)); refine blk_far ?_ NB126_128.out _; (with_reducible repeat (first | refine blk_drewN ?_ _ | refine blk_drew ?_ | refine blk_alloc ?_ _)); refine blk_far ?_ NB126_128.out _; (with_reducible repeat (first | refine blk_drewN ?_ _ | refine blk_drew ?_ | refine blk_alloc ?_ _)); exact BK126.out⟩
                 have n2_ : Aside0 (((((((wxb4d11.setCell ⟨gb128, 0, none⟩ (.int .i64 ((rd_T88 l0 (ji24)).f0.f0))).setCell ⟨gb128, 1, none⟩ (.int .i64 ((rd_T88 l0 (ji24)).f0.f1.f0))).setCell ⟨gb128, 2, none⟩ (.int .i64 ((rd_T88 l0 (ji24)).f0.f1.f1))).setCell ⟨gb128, 3, none⟩ (.int .i64 ((rd_T88 l0 (ji24)).f0.f2))).setCell ⟨gb128, 4, none⟩ (.int .i64 ((rd_T88 l0 (ji24)).f1))).setCell ⟨gb128, 5, none⟩ (.int .i64 ((rd_T88 l0 (ji24)).f2))).heap[gb128]? = some (.cells #[.int .i64 ((rd_T88 l0 (ji24)).f0.f0), .int .i64 ((rd_T88 l0 (ji24)).f0.f1.f0), .int .i64 ((rd_T88 l0 (ji24)).f0.f1.f1), .int .i64 ((rd_T88 l0 (ji24)).f0.f2), .int .i64 ((rd_T88 l0 (ji24)).f1), .int .i64 ((rd_T88 l0 (ji24)).f2)] 88 (0, 0))) := ⟨by (with_reducible repeat (first | refine blk_drewN ?_ _ | refine blk_drew ?_ | refine blk_alloc ?_ _)); refine blk_put (cs := #[.int .i64 ((rd_T88 l0 (ji24)).f0.f0), .int .i64 ((rd_T88 l0 (ji24)).f0.f1.f0), .int .i64 ((rd_T88 l0 (ji24)).f0.f1.f1), .int .i64 ((rd_T88 l0 (ji24)).f0.f2), .int .i64 ((rd_T88 l0 (ji24)).f1), .int .i64 0]) ?_ 5 _ rfl; (with_reducible repeat (first | refine blk_drewN ?_ _ | refine blk_drew ?_ | refine blk_alloc ?_ _)); refine blk_put (cs := #[.int .i64 ((rd_T88 l0 (ji24)).f0.f0), .int .i64 ((rd_T88 l0 (ji24)).f0.f1.f0), .int .i64 ((rd_T88 l0 (ji24)).f0.f1.f1), .int .i64 ((rd_T88 l0 (ji24)).f0.f2), .int .i64 0, .int .i64 0]) ?_ 4 _ rfl; (with_reducible repeat (first | refine blk_drewN ?_ _ | refine blk_drew ?_ | refine blk_alloc ?_ _)); refine blk_put (cs := #[.int .i64 ((rd_T88 l0 (ji24)).f0.f0), .int .i64 ((rd_T88 l0 (ji24)).f0.f1.f0), .int .i64 ((rd_T88 l0 (ji24)).f0.f1.f1), .int .i64 0, .int .i64 0, .int .i64 0]) ?_ 3 _ rfl; (with_reducible repeat (first | refine blk_drewN ?_ _ | refine blk_drew ?_ | refine blk_alloc ?_ _)); refine blk_put (cs := #[.int .i64 ((rd_T88 l0 (ji24)).f0.f0), .int .i64 ((rd_T88 l0 (ji24)).f0.f1.f0), .int .i64 0, .int .i64 0, .int .i64 0, .int .i64 0]) ?_ 2 _ rfl; (with_reducible repeat (first | refine blk_drewN ?_ _ | refine blk_drew ?_ | refine blk_alloc ?_ _)); refine blk_put (cs := #[.int .i64 ((rd_T88 l0 (ji24)).f0.f0), .int .i64 0, .int .i64 0, .int .i64 0, .int .i64 0, .int .i64 0]) ?_ 1 _ rfl; (with_reducible repeat (first | refine blk_drewN ?_ _ | refine blk_drew ?_ | refine blk_alloc ?_ _)); refine blk_put (cs := #[.int .i64 0, .int .i64 0, .int .i64 0, .int .i64 0, .int .i64 0, .int .i64 0]) ?_ 0 _ rfl; (with_reducible repeat (first | refine blk_drewN ?_ _ | refine blk_drew ?_ | refine blk_alloc ?_ _)); exact BK128.out⟩
                 have n3_ : Aside0 (Below w.heap.size w ((((((wxb4d11.setCell ⟨gb128, 0, none⟩ (.int .i64 ((rd_T88 l0 (ji24)).f0.f0))).setCell ⟨gb128, 1, none⟩ (.int .i64 ((rd_T88 l0 (ji24)).f0.f1.f0))).setCell ⟨gb128, 2, none⟩ (.int .i64 ((rd_T88 l0 (ji24)).f0.f1.f1))).setCell ⟨gb128, 3, none⟩ (.int .i64 ((rd_T88 l0 (ji24)).f0.f2))).setCell ⟨gb128, 4, none⟩ (.int .i64 ((rd_T88 l0 (ji24)).f1))).setCell ⟨gb128, 5, none⟩ (.int .i64 ((rd_T88 l0 (ji24)).f2)))) := ⟨by repeat (first | (with_reducible first | exact HB.out | apply below_alloc | apply pw_below_drewN | apply below_drew1 | refine below_set ?_ GE121.out | refine below_set ?_ GE126.out | refine below_set ?_ GE128.out) | exact HB.out)⟩
                 (try clear BK121)
                 (try clear BK126)
                 (try clear BK128)
                 (try clear HB)
                 generalize ((((((wxb4d11.setCell ⟨gb128, 0, none⟩ (.int .i64 ((rd_T88 l0 (ji24)).f0.f0))).setCell ⟨gb128, 1, none⟩ (.int .i64 ((rd_T88 l0 (ji24)).f0.f1.f0))).setCell ⟨gb128, 2, none⟩ (.int .i64 ((rd_T88 l0 (ji24)).f0.f1.f1))).setCell ⟨gb128, 3, none⟩ (.int .i64 ((rd_T88 l0 (ji24)).f0.f2))).setCell ⟨gb128, 4, none⟩ (.int .i64 ((rd_T88 l0 (ji24)).f1))).setCell ⟨gb128, 5, none⟩ (.int .i64 ((rd_T88 l0 (ji24)).f2))) = wze1 at n0_ n1_ n2_ n3_ ⊢
                 have BK121 := n0_
                 have BK126 := n1_
                 have BK128 := n2_
                 have HB := n3_
                 clear n0_ n1_ n2_ n3_
                 have n0_ := Aside0.mk (blk_drew BK121.out)
                 have n1_ := Aside0.mk (blk_drew BK126.out)
                 have n2_ := Aside0.mk (blk_drew BK128.out)
                 have n3_ := Aside0.mk (below_drew1 HB.out)
                 clear BK121
                 clear BK126
                 clear BK128
                 clear HB
                 have BK121 := n0_
                 have BK126 := n1_
                 have BK128 := n2_
                 have HB := n3_
                 clear n0_ n1_ n2_ n3_
                 refine start_ (n := 14) (S := fun w' => w'.cell? ⟨gb126, 0, none⟩ = some (.int .i64 ((rd_T88 l0 x6_11).f0.f0)) ∧ w'.cell? ⟨gb126, 1, none⟩ = some (.int .i64 ((rd_T88 l0 x6_11).f0.f1.f0)) ∧ w'.cell? ⟨gb126, 2, none⟩ = some (.int .i64 ((rd_T88 l0 x6_11).f0.f1.f1)) ∧ w'.cell? ⟨gb126, 3, none⟩ = some (.int .i64 ((rd_T88 l0 x6_11).f0.f2)) ∧ w'.cell? ⟨gb126, 4, none⟩ = some (.int .i64 ((rd_T88 l0 x6_11).f1)) ∧ w'.cell? ⟨gb126, 5, none⟩ = some (.int .i64 ((rd_T88 l0 x6_11).f2)) ∧ w'.cell? ⟨gb128, 0, none⟩ = some (.int .i64 ((rd_T88 l0 (ji24)).f0.f0)) ∧ w'.cell? ⟨gb128, 1, none⟩ = some (.int .i64 ((rd_T88 l0 (ji24)).f0.f1.f0)) ∧ w'.cell? ⟨gb128, 2, none⟩ = some (.int .i64 ((rd_T88 l0 (ji24)).f0.f1.f1)) ∧ w'.cell? ⟨gb128, 3, none⟩ = some (.int .i64 ((rd_T88 l0 (ji24)).f0.f2)) ∧ w'.cell? ⟨gb128, 4, none⟩ = some (.int .i64 ((rd_T88 l0 (ji24)).f1)) ∧ w'.cell? ⟨gb128, 5, none⟩ = some (.int .i64 ((rd_T88 l0 (ji24)).f2))) (ds := []) #[false, false, false, false, false, false, false, false, false, false, false, false, false, false] (by kernel_rfl) rfl rfl ⟨(blk_cell BK126.out 0).trans rfl, (blk_cell BK126.out 1).trans rfl, (blk_cell BK126.out 2).trans rfl, (blk_cell BK126.out 3).trans rfl, (blk_cell BK126.out 4).trans rfl, (blk_cell BK126.out 5).trans rfl, (blk_cell BK128.out 0).trans rfl, (blk_cell BK128.out 1).trans rfl, (blk_cell BK128.out 2).trans rfl, (blk_cell BK128.out 3).trans rfl, (blk_cell BK128.out 4).trans rfl, (blk_cell BK128.out 5).trans rfl⟩ (fun hHeld => ?_); refine with_tabW tube_at.tab10 tube_at.bits10 (fun HT_ HW_ => ?_)
                 generalize wze1.drew = wze2 at BK121 BK126 BK128 HB hHeld ⊢
                 refine pure_ (i := 0) (N := some 66) (v := ?_) (a' := ?_) #[true, false, false, false, false, false, false, false, false, false, false, false, false, false] rfl rfl (any_of HT_.out (by kernel_rfl)) (fun _ _ _ h => h) (Or.inl ⟨by rfl, ?_⟩) ?_ ?_
                 rotate_left
                 · intro w'
                   go_simp
                   with_reducible rfl
                 rotate_left
                 · simp only [Act.put, List.setIfInBounds_toArray, List.set_cons_zero, List.set_cons_succ, i64_w, i32_w]
                   rfl
                 refine pure_ (i := 1) (N := some 67) (v := ?_) (a' := ?_) #[true, true, false, false, false, false, false, false, false, false, false, false, false, false] rfl rfl (any_of HT_.out (by kernel_rfl)) (fun _ _ _ h => h) (Or.inl ⟨by rfl, ?_⟩) ?_ ?_
                 rotate_left
                 · intro w'
                   go_simp
                   with_reducible rfl
                 rotate_left
                 · simp only [Act.put, List.setIfInBounds_toArray, List.set_cons_zero, List.set_cons_succ, i64_w, i32_w]
                   rfl
                 refine pure_ (i := 2) (N := some 68) (v := ?_) (a' := ?_) #[true, true, true, false, false, false, false, false, false, false, false, false, false, false] rfl rfl (any_of HT_.out (by kernel_rfl)) (fun _ _ _ h => h) (Or.inl ⟨by rfl, ?_⟩) ?_ ?_
                 rotate_left
                 · intro w'
                   go_simp
                   with_reducible rfl
                 rotate_left
                 · simp only [Act.put, List.setIfInBounds_toArray, List.set_cons_zero, List.set_cons_succ, i64_w, i32_w]
                   rfl
                 refine pure_ (i := 5) (N := some 71) (v := ?_) (a' := ?_) #[true, true, true, false, false, true, false, false, false, false, false, false, false, false] rfl rfl (any_of HT_.out (by kernel_rfl)) (fun _ _ _ h => h) (Or.inl ⟨by rfl, ?_⟩) ?_ ?_
                 rotate_left
                 · intro w'
                   go_simp
                   with_reducible rfl
                 rotate_left
                 · simp only [Act.put, List.setIfInBounds_toArray, List.set_cons_zero, List.set_cons_succ, i64_w, i32_w]
                   rfl
                 refine pure_ (i := 6) (N := some 72) (v := ?_) (a' := ?_) #[true, true, true, false, false, true, true, false, false, false, false, false, false, false] rfl rfl (any_of HT_.out (by kernel_rfl)) (fun _ _ _ h => h) (Or.inl ⟨by rfl, ?_⟩) ?_ ?_
                 rotate_left
                 · intro w'
                   go_simp
                   with_reducible rfl
                 rotate_left
                 · simp only [Act.put, List.setIfInBounds_toArray, List.set_cons_zero, List.set_cons_succ, i64_w, i32_w]
                   rfl
                 refine pure_ (i := 8) (N := some 74) (v := ?_) (a' := ?_) #[true, true, true, false, false, true, true, false, true, false, false, false, false, false] rfl rfl (any_of HT_.out (by kernel_rfl)) (fun _ _ _ h => h) (Or.inl ⟨by rfl, ?_⟩) ?_ ?_
                 rotate_left
                 · intro w'
                   go_simp
                   with_reducible rfl
                 rotate_left
                 · simp only [Act.put, List.setIfInBounds_toArray, List.set_cons_zero, List.set_cons_succ, i64_w, i32_w]
                   rfl
                 refine pure_ (i := 9) (N := some 75) (v := ?_) (a' := ?_) #[true, true, true, false, false, true, true, false, true, true, false, false, false, false] rfl rfl (any_of HT_.out (by kernel_rfl)) (fun _ _ _ h => h) (Or.inl ⟨by rfl, ?_⟩) ?_ ?_
                 rotate_left
                 · intro w'
                   go_simp
                   with_reducible rfl
                 rotate_left
                 · simp only [Act.put, List.setIfInBounds_toArray, List.set_cons_zero, List.set_cons_succ, i64_w, i32_w]
                   rfl
                 refine take_ (i := 3) (N := some 69) (v := ?_) (a' := ?_) #[true, true, true, true, false, true, true, false, true, true, false, false, false, false] rfl rfl (take_ofW HT_.out HW_.out (by kernel_rfl)) (fun _ _ _ h => h) (Or.inl ⟨by rfl, ?_⟩) hHeld ?_ ?_
                 rotate_left
                 · rintro w' ⟨s0, s1, s2, s3, s4, s5, s6, s7, s8, s9, s10, s11⟩
                   go_simp
                   with_reducible rfl
                 rotate_left
                 · simp only [Act.put, List.setIfInBounds_toArray, List.set_cons_zero, List.set_cons_succ, i64_w, i32_w]
                   rfl
                 refine pure_ (i := 4) (N := some 70) (v := ?_) (a' := ?_) #[true, true, true, true, true, true, true, false, true, true, false, false, false, false] rfl rfl (any_of HT_.out (by kernel_rfl)) (fun _ _ _ h => h) (Or.inl ⟨by rfl, ?_⟩) ?_ ?_
                 rotate_left
                 · intro w'
                   go_simp
                   with_reducible rfl
                 rotate_left
                 · simp only [Act.put, List.setIfInBounds_toArray, List.set_cons_zero, List.set_cons_succ, i64_w, i32_w]
                   rfl
                 refine pure_ (i := 12) (N := some 9) (v := ?_) (a' := ?_) #[true, true, true, true, true, true, true, false, true, true, false, false, true, false] rfl rfl (any_of HT_.out (by kernel_rfl)) (fun _ _ _ h => h) (Or.inl ⟨by rfl, ?_⟩) ?_ ?_
                 rotate_left
                 · intro w'
                   go_simp
                   with_reducible rfl
                 rotate_left
                 · simp only [Act.put, List.setIfInBounds_toArray, List.set_cons_zero, List.set_cons_succ, i64_w, i32_w]
                   rfl
                 refine take_ (i := 7) (N := some 73) (v := ?_) (a' := ?_) #[true, true, true, true, true, true, true, true, true, true, false, false, true, false] rfl rfl (take_ofW HT_.out HW_.out (by kernel_rfl)) (fun _ _ _ h => h) (Or.inl ⟨by rfl, ?_⟩) hHeld ?_ ?_
                 rotate_left
                 · rintro w' ⟨s0, s1, s2, s3, s4, s5, s6, s7, s8, s9, s10, s11⟩
                   go_simp
                   with_reducible rfl
                 rotate_left
                 · simp only [Act.put, List.setIfInBounds_toArray, List.set_cons_zero, List.set_cons_succ, i64_w, i32_w]
                   rfl
                 refine take_ (i := 10) (N := some 76) (v := ?_) (a' := ?_) #[true, true, true, true, true, true, true, true, true, true, true, false, true, false] rfl rfl (take_ofW HT_.out HW_.out (by kernel_rfl)) (fun _ _ _ h => h) (Or.inl ⟨by rfl, ?_⟩) hHeld ?_ ?_
                 rotate_left
                 · rintro w' ⟨s0, s1, s2, s3, s4, s5, s6, s7, s8, s9, s10, s11⟩
                   go_simp
                   with_reducible rfl
                 rotate_left
                 · simp only [Act.put, List.setIfInBounds_toArray, List.set_cons_zero, List.set_cons_succ, i64_w, i32_w]
                   rfl
                 refine pure_ (i := 11) (N := some 77) (v := ?_) (a' := ?_) #[true, true, true, true, true, true, true, true, true, true, true, true, true, false] rfl rfl (any_of HT_.out (by kernel_rfl)) (fun _ _ _ h => h) (Or.inl ⟨by rfl, ?_⟩) ?_ ?_
                 rotate_left
                 · intro w'
                   go_simp
                   with_reducible rfl
                 rotate_left
                 · simp only [Act.put, List.setIfInBounds_toArray, List.set_cons_zero, List.set_cons_succ, i64_w, i32_w]
                   rfl
                 refine pure_ (i := 13) (N := some 10) (v := ?_) (a' := ?_) #[true, true, true, true, true, true, true, true, true, true, true, true, true, true] rfl rfl (any_of HT_.out (by kernel_rfl)) (fun _ _ _ h => h) (Or.inl ⟨by rfl, ?_⟩) ?_ ?_
                 rotate_left
                 · intro w'
                   go_simp
                   with_reducible rfl
                 rotate_left
                 · simp only [Act.put, List.setIfInBounds_toArray, List.set_cons_zero, List.set_cons_succ, i64_w, i32_w]
                   rfl
                 refine done_ (done_of HT_.out (by kernel_rfl)) ?_
                 have hczze1 : wze2.cell? ⟨gb126, 0, none⟩ = some (.int .i64 ((rd_T88 l0 x6_11).f0.f0)) := (blk_cell BK126.out 0).trans rfl
                 have hczze2 : wze2.cell? ⟨gb126, 1, none⟩ = some (.int .i64 ((rd_T88 l0 x6_11).f0.f1.f0)) := (blk_cell BK126.out 1).trans rfl
                 have hczze3 : wze2.cell? ⟨gb126, 2, none⟩ = some (.int .i64 ((rd_T88 l0 x6_11).f0.f1.f1)) := (blk_cell BK126.out 2).trans rfl
                 have hczze4 : wze2.cell? ⟨gb126, 3, none⟩ = some (.int .i64 ((rd_T88 l0 x6_11).f0.f2)) := (blk_cell BK126.out 3).trans rfl
                 have hczze5 : wze2.cell? ⟨gb126, 4, none⟩ = some (.int .i64 ((rd_T88 l0 x6_11).f1)) := (blk_cell BK126.out 4).trans rfl
                 have hczze6 : wze2.cell? ⟨gb126, 5, none⟩ = some (.int .i64 ((rd_T88 l0 x6_11).f2)) := (blk_cell BK126.out 5).trans rfl
                 have hfzze1 := blk_frozen BK126.out 0
                 have hfzze2 := blk_frozen BK126.out 1
                 have hfzze3 := blk_frozen BK126.out 2
                 have hfzze4 := blk_frozen BK126.out 3
                 have hfzze5 := blk_frozen BK126.out 4
                 have hfzze6 := blk_frozen BK126.out 5
                 have hczze7 : wze2.cell? ⟨gb128, 0, none⟩ = some (.int .i64 ((rd_T88 l0 (ji24)).f0.f0)) := (blk_cell BK128.out 0).trans rfl
                 have hczze8 : wze2.cell? ⟨gb128, 1, none⟩ = some (.int .i64 ((rd_T88 l0 (ji24)).f0.f1.f0)) := (blk_cell BK128.out 1).trans rfl
                 have hczze9 : wze2.cell? ⟨gb128, 2, none⟩ = some (.int .i64 ((rd_T88 l0 (ji24)).f0.f1.f1)) := (blk_cell BK128.out 2).trans rfl
                 have hczze10 : wze2.cell? ⟨gb128, 3, none⟩ = some (.int .i64 ((rd_T88 l0 (ji24)).f0.f2)) := (blk_cell BK128.out 3).trans rfl
                 have hczze11 : wze2.cell? ⟨gb128, 4, none⟩ = some (.int .i64 ((rd_T88 l0 (ji24)).f1)) := (blk_cell BK128.out 4).trans rfl
                 have hczze12 : wze2.cell? ⟨gb128, 5, none⟩ = some (.int .i64 ((rd_T88 l0 (ji24)).f2)) := (blk_cell BK128.out 5).trans rfl
                 have hfzze7 := blk_frozen BK128.out 0
                 have hfzze8 := blk_frozen BK128.out 1
                 have hfzze9 := blk_frozen BK128.out 2
                 have hfzze10 := blk_frozen BK128.out 3
                 have hfzze11 := blk_frozen BK128.out 4
                 have hfzze12 := blk_frozen BK128.out 5
                 try go_wp2_with (first | ((with_reducible refine gate_callee (f := 110) rfl ?_); refine goesL_ (some 87) rfl rfl Try.func110 (by kernel_rfl) rfl #[.agg #[.int .i64 ((rd_T88 l0 x6_11).f0.f1.f0), .int .i64 ((rd_T88 l0 x6_11).f0.f1.f1)], .agg #[.int .i64 ((rd_T88 l0 (ji24)).f0.f1.f0), .int .i64 ((rd_T88 l0 (ji24)).f0.f1.f1)], .int .i64 (wrap64 (a1 - ((rd_T88 l0 x6_11).f0.f0))), .int .i64 (wrap64 (((rd_T88 l0 (ji24)).f0.f0) - ((rd_T88 l0 x6_11).f0.f0)))] rfl (by (try simp only [List.map_toArray, List.map_cons, List.map_nil]); first | done | (simp only [hji24]; rfl) | rfl | (simp only [List.length_drop, List.length_take]; rfl)) ?_; (with_reducible refine (plane_Toward.calls kj11 ((rd_T88 l0 x6_11).f0.f1.f0) ((rd_T88 l0 x6_11).f0.f1.f1) ((rd_T88 l0 (ji24)).f0.f1.f0) ((rd_T88 l0 (ji24)).f0.f1.f1) (wrap64 (a1 - ((rd_T88 l0 x6_11).f0.f0))) (wrap64 (((rd_T88 l0 (ji24)).f0.f0) - ((rd_T88 l0 x6_11).f0.f0))) t129 t130 t131 _ A27.out).mono ?_); rintro e wx84cd1 ⟨rfl, hb⟩; refine ⟨_, rfl, ?_⟩; have n0_ := Aside0.mk (blk_below (g := gb121) (o := .cells #[.int .i64 0, .int .i64 0, .int .i64 0, .int .i64 0, .int .i64 0, .int .i64 0] 88 (0, 0)) (by (with_reducible repeat (first | refine blk_drewN ?_ _ | refine blk_drew ?_ | refine blk_alloc ?_ _)); exact BK121.out) hb); have n1_ := Aside0.mk (blk_below (g := gb126) (o := .cells #[.int .i64 ((rd_T88 l0 x6_11).f0.f0), .int .i64 ((rd_T88 l0 x6_11).f0.f1.f0), .int .i64 ((rd_T88 l0 x6_11).f0.f1.f1), .int .i64 ((rd_T88 l0 x6_11).f0.f2), .int .i64 ((rd_T88 l0 x6_11).f1), .int .i64 ((rd_T88 l0 x6_11).f2)] 88 (0, 0)) (by (with_reducible repeat (first | refine blk_drewN ?_ _ | refine blk_drew ?_ | refine blk_alloc ?_ _)); exact BK126.out) hb); have n2_ := Aside0.mk (blk_below (g := gb128) (o := .cells #[.int .i64 ((rd_T88 l0 (ji24)).f0.f0), .int .i64 ((rd_T88 l0 (ji24)).f0.f1.f0), .int .i64 ((rd_T88 l0 (ji24)).f0.f1.f1), .int .i64 ((rd_T88 l0 (ji24)).f0.f2), .int .i64 ((rd_T88 l0 (ji24)).f1), .int .i64 ((rd_T88 l0 (ji24)).f2)] 88 (0, 0)) (by (with_reducible repeat (first | refine blk_drewN ?_ _ | refine blk_drew ?_ | refine blk_alloc ?_ _)); exact BK128.out) hb); have n3_ := Aside0.mk (below_step (by repeat (first | (with_reducible first | exact HB.out | apply below_alloc | apply pw_below_drewN | apply below_drew1 | refine below_set ?_ GE121.out | refine below_set ?_ GE126.out | refine below_set ?_ GE128.out) | exact HB.out)) hb); clear BK121; clear BK126; clear BK128; clear HB; have BK121 := n0_; have BK126 := n1_; have BK128 := n2_; have HB := n3_; clear n0_ n1_ n2_ n3_; (try clear hb); (try clear hb2); (try clear hk); (try clear hi)) | ((with_reducible refine gate_dst (N := 11) rfl ?_); (try (refine gate_guard (by rfl) ?_; dsimp only)); refine box_event ?hg (N := 11) ?hd (cs := #[.int .i64 0, .int .i64 0]) (t := 36) ?hr ?_; (case hd => rfl); (case hg => rfl); (case hr => first | (go_simp; done) | (go_simp; rfl)); intro gb132 hg wx1e361 hbox hb; have n0_ := Aside0.mk (blk_below (g := gb121) (o := .cells #[.int .i64 0, .int .i64 0, .int .i64 0, .int .i64 0, .int .i64 0, .int .i64 0] 88 (0, 0)) (by (with_reducible repeat (first | refine blk_drewN ?_ _ | refine blk_drew ?_ | refine blk_alloc ?_ _)); exact BK121.out) hb); have n1_ := Aside0.mk (blk_below (g := gb126) (o := .cells #[.int .i64 ((rd_T88 l0 x6_11).f0.f0), .int .i64 ((rd_T88 l0 x6_11).f0.f1.f0), .int .i64 ((rd_T88 l0 x6_11).f0.f1.f1), .int .i64 ((rd_T88 l0 x6_11).f0.f2), .int .i64 ((rd_T88 l0 x6_11).f1), .int .i64 ((rd_T88 l0 x6_11).f2)] 88 (0, 0)) (by (with_reducible repeat (first | refine blk_drewN ?_ _ | refine blk_drew ?_ | refine blk_alloc ?_ _)); exact BK126.out) hb); have n2_ := Aside0.mk (blk_below (g := gb128) (o := .cells #[.int .i64 ((rd_T88 l0 (ji24)).f0.f0), .int .i64 ((rd_T88 l0 (ji24)).f0.f1.f0), .int .i64 ((rd_T88 l0 (ji24)).f0.f1.f1), .int .i64 ((rd_T88 l0 (ji24)).f0.f2), .int .i64 ((rd_T88 l0 (ji24)).f1), .int .i64 ((rd_T88 l0 (ji24)).f2)] 88 (0, 0)) (by (with_reducible repeat (first | refine blk_drewN ?_ _ | refine blk_drew ?_ | refine blk_alloc ?_ _)); exact BK128.out) hb); have n3_ := Aside0.mk (below_step (by repeat (first | (with_reducible first | exact HB.out | apply below_alloc | apply pw_below_drewN | apply below_drew1 | refine below_set ?_ GE121.out | refine below_set ?_ GE126.out | refine below_set ?_ GE128.out) | exact HB.out)) hb); have n4_ := Aside0.mk (hbox); have n5_ := Aside0.mk ((by rw [hg]; exact (below_size (by repeat (first | (with_reducible first | exact HB.out | apply below_alloc | apply pw_below_drewN | apply below_drew1 | refine below_set ?_ GE121.out | refine below_set ?_ GE126.out | refine below_set ?_ GE128.out) | exact HB.out))) : w.heap.size ≤ gb132)); have n6_ := Aside0.mk ((by rw [hg]; exact (below_size (by repeat (first | (with_reducible first | exact HB.out | apply below_alloc | apply pw_below_drewN | apply below_drew1 | refine below_set ?_ GE121.out | refine below_set ?_ GE126.out | refine below_set ?_ GE128.out) | exact HB.out))) : w.heap.size ≤ gb132)); have n7_ := Aside0.mk ((by rw [hg]; exact Nat.ne_of_lt (blk_lt (g := gb121) (o := .cells #[.int .i64 0, .int .i64 0, .int .i64 0, .int .i64 0, .int .i64 0, .int .i64 0] 88 (0, 0)) (by (with_reducible repeat (first | refine blk_drewN ?_ _ | refine blk_drew ?_ | refine blk_alloc ?_ _)); exact BK121.out)) : gb121 ≠ gb132)); have n8_ := Aside0.mk ((by rw [hg]; exact Nat.ne_of_gt (blk_lt (g := gb121) (o := .cells #[.int .i64 0, .int .i64 0, .int .i64 0, .int .i64 0, .int .i64 0, .int .i64 0] 88 (0, 0)) (by (with_reducible repeat (first | refine blk_drewN ?_ _ | refine blk_drew ?_ | refine blk_alloc ?_ _)); exact BK121.out)) : gb132 ≠ gb121)); have n9_ := Aside0.mk ((by rw [hg]; exact Nat.ne_of_lt (blk_lt (g := gb126) (o := .cells #[.int .i64 ((rd_T88 l0 x6_11).f0.f0), .int .i64 ((rd_T88 l0 x6_11).f0.f1.f0), .int .i64 ((rd_T88 l0 x6_11).f0.f1.f1), .int .i64 ((rd_T88 l0 x6_11).f0.f2), .int .i64 ((rd_T88 l0 x6_11).f1), .int .i64 ((rd_T88 l0 x6_11).f2)] 88 (0, 0)) (by (with_reducible repeat (first | refine blk_drewN ?_ _ | refine blk_drew ?_ | refine blk_alloc ?_ _)); exact BK126.out)) : gb126 ≠ gb132)); have n10_ := Aside0.mk ((by rw [hg]; exact Nat.ne_of_gt (blk_lt (g := gb126) (o := .cells #[.int .i64 ((rd_T88 l0 x6_11).f0.f0), .int .i64 ((rd_T88 l0 x6_11).f0.f1.f0), .int .i64 ((rd_T88 l0 x6_11).f0.f1.f1), .int .i64 ((rd_T88 l0 x6_11).f0.f2), .int .i64 ((rd_T88 l0 x6_11).f1), .int .i64 ((rd_T88 l0 x6_11).f2)] 88 (0, 0)) (by (with_reducible repeat (first | refine blk_drewN ?_ _ | refine blk_drew ?_ | refine blk_alloc ?_ _)); exact BK126.out)) : gb132 ≠ gb126)); have n11_ := Aside0.mk ((by rw [hg]; exact Nat.ne_of_lt (blk_lt (g := gb128) (o := .cells #[.int .i64 ((rd_T88 l0 (ji24)).f0.f0), .int .i64 ((rd_T88 l0 (ji24)).f0.f1.f0), .int .i64 ((rd_T88 l0 (ji24)).f0.f1.f1), .int .i64 ((rd_T88 l0 (ji24)).f0.f2), .int .i64 ((rd_T88 l0 (ji24)).f1), .int .i64 ((rd_T88 l0 (ji24)).f2)] 88 (0, 0)) (by (with_reducible repeat (first | refine blk_drewN ?_ _ | refine blk_drew ?_ | refine blk_alloc ?_ _)); exact BK128.out)) : gb128 ≠ gb132)); have n12_ := Aside0.mk ((by rw [hg]; exact Nat.ne_of_gt (blk_lt (g := gb128) (o := .cells #[.int .i64 ((rd_T88 l0 (ji24)).f0.f0), .int .i64 ((rd_T88 l0 (ji24)).f0.f1.f0), .int .i64 ((rd_T88 l0 (ji24)).f0.f1.f1), .int .i64 ((rd_T88 l0 (ji24)).f0.f2), .int .i64 ((rd_T88 l0 (ji24)).f1), .int .i64 ((rd_T88 l0 (ji24)).f2)] 88 (0, 0)) (by (with_reducible repeat (first | refine blk_drewN ?_ _ | refine blk_drew ?_ | refine blk_alloc ?_ _)); exact BK128.out)) : gb132 ≠ gb128)); clear BK121; clear BK126; clear BK128; clear HB; have BK121 := n0_; have BK126 := n1_; have BK128 := n2_; have HB := n3_; have BK132 := n4_; have GW132 := n5_; have GE132 := n6_; have NB121_132 := n7_; have NB132_121 := n8_; have NB126_132 := n9_; have NB132_126 := n10_; have NB128_132 := n11_; have NB132_128 := n12_; clear n0_ n1_ n2_ n3_ n4_ n5_ n6_ n7_ n8_ n9_ n10_ n11_ n12_; clear hb hbox hg; have hnbx1e361 := NB132_121.out; have hncx1e361 := NB121_132.out; have hnbx1e362 := NB132_126.out; have hncx1e362 := NB126_132.out; have hnbx1e363 := NB132_128.out; have hncx1e363 := NB128_132.out; have hczx1e361 : wx1e361.cell? ⟨gb132, 0, none⟩ = some (.int .i64 0) := (blk_cell BK132.out 0).trans rfl; have hczx1e362 : wx1e361.cell? ⟨gb132, 1, none⟩ = some (.int .i64 0) := (blk_cell BK132.out 1).trans rfl; have hfzx1e361 := blk_frozen BK132.out 0; have hfzx1e362 := blk_frozen BK132.out 1))
                 have n0_ : Aside0 (((wx1e361.setCell ⟨gb132, 0, none⟩ (.int .i64 t129)).setCell ⟨gb132, 1, none⟩ (.int .i64 t130)).heap[gb121]? = some (.cells #[.int .i64 0, .int .i64 0, .int .i64 0, .int .i64 0, .int .i64 0, .int .i64 0] 88 (0, 0))) := ⟨by (with_reducible repeat (first | refine blk_drewN ?_ _ | refine blk_drew ?_ | refine blk_alloc ?_ _)); refine blk_far ?_ NB121_132.out _; (with_reducible repeat (first | refine blk_drewN ?_ _ | refine blk_drew ?_ | refine blk_alloc ?_ _)); refine blk_far ?_ NB121_132.out _; (with_reducible repeat (first | refine blk_drewN ?_ _ | refine blk_drew ?_ | refine blk_alloc ?_ _)); exact BK121.out⟩
                 have n1_ : Aside0 (((wx1e361.setCell ⟨gb132, 0, none⟩ (.int .i64 t129)).setCell ⟨gb132, 1, none⟩ (.int .i64 t130)).heap[gb126]? = some (.cells #[.int .i64 ((rd_T88 l0 x6_11).f0.f0), .int .i64 ((rd_T88 l0 x6_11).f0.f1.f0), .int .i64 ((rd_T88 l0 x6_11).f0.f1.f1), .int .i64 ((rd_T88 l0 x6_11).f0.f2), .int .i64 ((rd_T88 l0 x6_11).f1), .int .i64 ((rd_T88 l0 x6_11).f2)] 88 (0, 0))) := ⟨by (with_reducible repeat (first | refine blk_drewN ?_ _ | refine blk_drew ?_ | refine blk_alloc ?_ _)); refine blk_far ?_ NB126_132.out _; (with_reducible repeat (first | refine blk_drewN ?_ _ | refine blk_drew ?_ | refine blk_alloc ?_ _)); refine blk_far ?_ NB126_132.out _; (with_reducible repeat (first | refine blk_drewN ?_ _ | refine blk_drew ?_ | refine blk_alloc ?_ _)); exact BK126.out⟩
                 have n2_ : Aside0 (((wx1e361.setCell ⟨gb132, 0, none⟩ (.int .i64 t129)).setCell ⟨gb132, 1, none⟩ (.int .i64 t130)).heap[gb128]? = some (.cells #[.int .i64 ((rd_T88 l0 (ji24)).f0.f0), .int .i64 ((rd_T88 l0 (ji24)).f0.f1.f0), .int .i64 ((rd_T88 l0 (ji24)).f0.f1.f1), .int .i64 ((rd_T88 l0 (ji24)).f0.f2), .int .i64 ((rd_T88 l0 (ji24)).f1), .int .i64 ((rd_T88 l0 (ji24)).f2)] 88 (0, 0))) := ⟨by (with_reducible repeat (first | refine blk_drewN ?_ _ | refine blk_drew ?_ | refine blk_alloc ?_ _)); refine blk_far ?_ NB128_132.out _; (with_reducible repeat (first | refine blk_drewN ?_ _ | refine blk_drew ?_ | refine blk_alloc ?_ _)); refine blk_far ?_ NB128_132.out _; (with_reducible repeat (first | refine blk_drewN ?_ _ | refine blk_drew ?_ | refine blk_alloc ?_ _)); exact BK128.out⟩
                 have n3_ : Aside0 (((wx1e361.setCell ⟨gb132, 0, none⟩ (.int .i64 t129)).setCell ⟨gb132, 1, none⟩ (.int .i64 t130)).heap[gb132]? = some (.cells #[.int .i64 t129, .int .i64 t130] 36 (0, 0))) := ⟨by (with_reducible repeat (first | refine blk_drewN ?_ _ | refine blk_drew ?_ | refine blk_alloc ?_ _)); refine blk_put (cs := #[.int .i64 t129, .int .i64 0]) ?_ 1 _ rfl; (with_reducible repeat (first | refine blk_drewN ?_ _ | refine blk_drew ?_ | refine blk_alloc ?_ _)); refine blk_put (cs := #[.int .i64 0, .int .i64 0]) ?_ 0 _ rfl; (with_reducible repeat (first | refine blk_drewN ?_ _ | refine blk_drew ?_ | refine blk_alloc ?_ _)); exact BK132.out⟩
                 have n4_ : Aside0 (Below w.heap.size w ((wx1e361.setCell ⟨gb132, 0, none⟩ (.int .i64 t129)).setCell ⟨gb132, 1, none⟩ (.int .i64 t130))) := ⟨by repeat (first | (with_reducible first | exact HB.out | apply below_alloc | apply pw_below_drewN | apply below_drew1 | refine below_set ?_ GE121.out | refine below_set ?_ GE126.out | refine below_set ?_ GE128.out | refine below_set ?_ GE132.out) | exact HB.out)⟩
                 (try clear BK121)
                 (try clear BK126)
                 (try clear BK128)
                 (try clear BK132)
                 (try clear HB)
                 generalize ((wx1e361.setCell ⟨gb132, 0, none⟩ (.int .i64 t129)).setCell ⟨gb132, 1, none⟩ (.int .i64 t130)) = wze3 at n0_ n1_ n2_ n3_ n4_ ⊢
                 have BK121 := n0_
                 have BK126 := n1_
                 have BK128 := n2_
                 have BK132 := n3_
                 have HB := n4_
                 clear n0_ n1_ n2_ n3_ n4_
                 have n0_ := Aside0.mk (blk_drew BK121.out)
                 have n1_ := Aside0.mk (blk_drew BK126.out)
                 have n2_ := Aside0.mk (blk_drew BK128.out)
                 have n3_ := Aside0.mk (blk_drew BK132.out)
                 have n4_ := Aside0.mk (below_drew1 HB.out)
                 clear BK121
                 clear BK126
                 clear BK128
                 clear BK132
                 clear HB
                 have BK121 := n0_
                 have BK126 := n1_
                 have BK128 := n2_
                 have BK132 := n3_
                 have HB := n4_
                 clear n0_ n1_ n2_ n3_ n4_
                 refine start_ (n := 29) (S := fun w' => w'.cell? ⟨gb132, 0, none⟩ = some (.int .i64 t129) ∧ w'.cell? ⟨gb132, 1, none⟩ = some (.int .i64 t130) ∧ w'.cell? ⟨gb126, 0, none⟩ = some (.int .i64 ((rd_T88 l0 x6_11).f0.f0)) ∧ w'.cell? ⟨gb126, 1, none⟩ = some (.int .i64 ((rd_T88 l0 x6_11).f0.f1.f0)) ∧ w'.cell? ⟨gb126, 2, none⟩ = some (.int .i64 ((rd_T88 l0 x6_11).f0.f1.f1)) ∧ w'.cell? ⟨gb126, 3, none⟩ = some (.int .i64 ((rd_T88 l0 x6_11).f0.f2)) ∧ w'.cell? ⟨gb126, 4, none⟩ = some (.int .i64 ((rd_T88 l0 x6_11).f1)) ∧ w'.cell? ⟨gb126, 5, none⟩ = some (.int .i64 ((rd_T88 l0 x6_11).f2)) ∧ w'.cell? ⟨gb128, 0, none⟩ = some (.int .i64 ((rd_T88 l0 (ji24)).f0.f0)) ∧ w'.cell? ⟨gb128, 1, none⟩ = some (.int .i64 ((rd_T88 l0 (ji24)).f0.f1.f0)) ∧ w'.cell? ⟨gb128, 2, none⟩ = some (.int .i64 ((rd_T88 l0 (ji24)).f0.f1.f1)) ∧ w'.cell? ⟨gb128, 3, none⟩ = some (.int .i64 ((rd_T88 l0 (ji24)).f0.f2)) ∧ w'.cell? ⟨gb128, 4, none⟩ = some (.int .i64 ((rd_T88 l0 (ji24)).f1)) ∧ w'.cell? ⟨gb128, 5, none⟩ = some (.int .i64 ((rd_T88 l0 (ji24)).f2))) (ds := []) #[false, false, false, false, false, false, false, false, false, false, false, false, false, false, false, false, false, false, false, false, false, false, false, false, false, false, false, false, false] (by kernel_rfl) rfl rfl ⟨(blk_cell BK132.out 0).trans rfl, (blk_cell BK132.out 1).trans rfl, (blk_cell BK126.out 0).trans rfl, (blk_cell BK126.out 1).trans rfl, (blk_cell BK126.out 2).trans rfl, (blk_cell BK126.out 3).trans rfl, (blk_cell BK126.out 4).trans rfl, (blk_cell BK126.out 5).trans rfl, (blk_cell BK128.out 0).trans rfl, (blk_cell BK128.out 1).trans rfl, (blk_cell BK128.out 2).trans rfl, (blk_cell BK128.out 3).trans rfl, (blk_cell BK128.out 4).trans rfl, (blk_cell BK128.out 5).trans rfl⟩ (fun hHeld => ?_); refine with_tabW tube_at.tab12 tube_at.bits12 (fun HT_ HW_ => ?_)
                 generalize wze3.drew = wze4 at BK121 BK126 BK128 BK132 HB hHeld ⊢
                 refine pure_ (i := 0) (N := some 90) (v := ?_) (a' := ?_) #[true, false, false, false, false, false, false, false, false, false, false, false, false, false, false, false, false, false, false, false, false, false, false, false, false, false, false, false, false] rfl rfl (any_of HT_.out (by kernel_rfl)) (fun _ _ _ h => h) (Or.inl ⟨by rfl, ?_⟩) ?_ ?_
                 rotate_left
                 · intro w'
                   go_simp
                   with_reducible rfl
                 rotate_left
                 · simp only [Act.put, List.setIfInBounds_toArray, List.set_cons_zero, List.set_cons_succ, i64_w, i32_w]
                   rfl
                 refine pure_ (i := 2) (N := some 92) (v := ?_) (a' := ?_) #[true, false, true, false, false, false, false, false, false, false, false, false, false, false, false, false, false, false, false, false, false, false, false, false, false, false, false, false, false] rfl rfl (any_of HT_.out (by kernel_rfl)) (fun _ _ _ h => h) (Or.inl ⟨by rfl, ?_⟩) ?_ ?_
                 rotate_left
                 · intro w'
                   go_simp
                   with_reducible rfl
                 rotate_left
                 · simp only [Act.put, List.setIfInBounds_toArray, List.set_cons_zero, List.set_cons_succ, i64_w, i32_w]
                   rfl
                 refine pure_ (i := 3) (N := some 93) (v := ?_) (a' := ?_) #[true, false, true, true, false, false, false, false, false, false, false, false, false, false, false, false, false, false, false, false, false, false, false, false, false, false, false, false, false] rfl rfl (any_of HT_.out (by kernel_rfl)) (fun _ _ _ h => h) (Or.inl ⟨by rfl, ?_⟩) ?_ ?_
                 rotate_left
                 · intro w'
                   go_simp
                   with_reducible rfl
                 rotate_left
                 · simp only [Act.put, List.setIfInBounds_toArray, List.set_cons_zero, List.set_cons_succ, i64_w, i32_w]
                   rfl
                 refine pure_ (i := 5) (N := some 95) (v := ?_) (a' := ?_) #[true, false, true, true, false, true, false, false, false, false, false, false, false, false, false, false, false, false, false, false, false, false, false, false, false, false, false, false, false] rfl rfl (any_of HT_.out (by kernel_rfl)) (fun _ _ _ h => h) (Or.inl ⟨by rfl, ?_⟩) ?_ ?_
                 rotate_left
                 · intro w'
                   go_simp
                   with_reducible rfl
                 rotate_left
                 · simp only [Act.put, List.setIfInBounds_toArray, List.set_cons_zero, List.set_cons_succ, i64_w, i32_w]
                   rfl
                 refine pure_ (i := 6) (N := some 96) (v := ?_) (a' := ?_) #[true, false, true, true, false, true, true, false, false, false, false, false, false, false, false, false, false, false, false, false, false, false, false, false, false, false, false, false, false] rfl rfl (any_of HT_.out (by kernel_rfl)) (fun _ _ _ h => h) (Or.inl ⟨by rfl, ?_⟩) ?_ ?_
                 rotate_left
                 · intro w'
                   go_simp
                   with_reducible rfl
                 rotate_left
                 · simp only [Act.put, List.setIfInBounds_toArray, List.set_cons_zero, List.set_cons_succ, i64_w, i32_w]
                   rfl
                 refine pure_ (i := 8) (N := some 98) (v := ?_) (a' := ?_) #[true, false, true, true, false, true, true, false, true, false, false, false, false, false, false, false, false, false, false, false, false, false, false, false, false, false, false, false, false] rfl rfl (any_of HT_.out (by kernel_rfl)) (fun _ _ _ h => h) (Or.inl ⟨by rfl, ?_⟩) ?_ ?_
                 rotate_left
                 · intro w'
                   go_simp
                   with_reducible rfl
                 rotate_left
                 · simp only [Act.put, List.setIfInBounds_toArray, List.set_cons_zero, List.set_cons_succ, i64_w, i32_w]
                   rfl
                 refine pure_ (i := 9) (N := some 99) (v := ?_) (a' := ?_) #[true, false, true, true, false, true, true, false, true, true, false, false, false, false, false, false, false, false, false, false, false, false, false, false, false, false, false, false, false] rfl rfl (any_of HT_.out (by kernel_rfl)) (fun _ _ _ h => h) (Or.inl ⟨by rfl, ?_⟩) ?_ ?_
                 rotate_left
                 · intro w'
                   go_simp
                   with_reducible rfl
                 rotate_left
                 · simp only [Act.put, List.setIfInBounds_toArray, List.set_cons_zero, List.set_cons_succ, i64_w, i32_w]
                   rfl
                 refine pure_ (i := 12) (N := some 102) (v := ?_) (a' := ?_) #[true, false, true, true, false, true, true, false, true, true, false, false, true, false, false, false, false, false, false, false, false, false, false, false, false, false, false, false, false] rfl rfl (any_of HT_.out (by kernel_rfl)) (fun _ _ _ h => h) (Or.inl ⟨by rfl, ?_⟩) ?_ ?_
                 rotate_left
                 · intro w'
                   go_simp
                   with_reducible rfl
                 rotate_left
                 · simp only [Act.put, List.setIfInBounds_toArray, List.set_cons_zero, List.set_cons_succ, i64_w, i32_w]
                   rfl
                 refine pure_ (i := 14) (N := some 104) (v := ?_) (a' := ?_) #[true, false, true, true, false, true, true, false, true, true, false, false, true, false, true, false, false, false, false, false, false, false, false, false, false, false, false, false, false] rfl rfl (any_of HT_.out (by kernel_rfl)) (fun _ _ _ h => h) (Or.inl ⟨by rfl, ?_⟩) ?_ ?_
                 rotate_left
                 · intro w'
                   go_simp
                   with_reducible rfl
                 rotate_left
                 · simp only [Act.put, List.setIfInBounds_toArray, List.set_cons_zero, List.set_cons_succ, i64_w, i32_w]
                   rfl
                 refine pure_ (i := 16) (N := some 106) (v := ?_) (a' := ?_) #[true, false, true, true, false, true, true, false, true, true, false, false, true, false, true, false, true, false, false, false, false, false, false, false, false, false, false, false, false] rfl rfl (any_of HT_.out (by kernel_rfl)) (fun _ _ _ h => h) (Or.inl ⟨by rfl, ?_⟩) ?_ ?_
                 rotate_left
                 · intro w'
                   go_simp
                   with_reducible rfl
                 rotate_left
                 · simp only [Act.put, List.setIfInBounds_toArray, List.set_cons_zero, List.set_cons_succ, i64_w, i32_w]
                   rfl
                 refine pure_ (i := 17) (N := some 107) (v := ?_) (a' := ?_) #[true, false, true, true, false, true, true, false, true, true, false, false, true, false, true, false, true, true, false, false, false, false, false, false, false, false, false, false, false] rfl rfl (any_of HT_.out (by kernel_rfl)) (fun _ _ _ h => h) (Or.inl ⟨by rfl, ?_⟩) ?_ ?_
                 rotate_left
                 · intro w'
                   go_simp
                   with_reducible rfl
                 rotate_left
                 · simp only [Act.put, List.setIfInBounds_toArray, List.set_cons_zero, List.set_cons_succ, i64_w, i32_w]
                   rfl
                 refine pure_ (i := 19) (N := some 109) (v := ?_) (a' := ?_) #[true, false, true, true, false, true, true, false, true, true, false, false, true, false, true, false, true, true, false, true, false, false, false, false, false, false, false, false, false] rfl rfl (any_of HT_.out (by kernel_rfl)) (fun _ _ _ h => h) (Or.inl ⟨by rfl, ?_⟩) ?_ ?_
                 rotate_left
                 · intro w'
                   go_simp
                   with_reducible rfl
                 rotate_left
                 · simp only [Act.put, List.setIfInBounds_toArray, List.set_cons_zero, List.set_cons_succ, i64_w, i32_w]
                   rfl
                 refine pure_ (i := 21) (N := some 111) (v := ?_) (a' := ?_) #[true, false, true, true, false, true, true, false, true, true, false, false, true, false, true, false, true, true, false, true, false, true, false, false, false, false, false, false, false] rfl rfl (any_of HT_.out (by kernel_rfl)) (fun _ _ _ h => h) (Or.inl ⟨by rfl, ?_⟩) ?_ ?_
                 rotate_left
                 · intro w'
                   go_simp
                   with_reducible rfl
                 rotate_left
                 · simp only [Act.put, List.setIfInBounds_toArray, List.set_cons_zero, List.set_cons_succ, i64_w, i32_w]
                   rfl
                 refine pure_ (i := 23) (N := some 113) (v := ?_) (a' := ?_) #[true, false, true, true, false, true, true, false, true, true, false, false, true, false, true, false, true, true, false, true, false, true, false, true, false, false, false, false, false] rfl rfl (any_of HT_.out (by kernel_rfl)) (fun _ _ _ h => h) (Or.inl ⟨by rfl, ?_⟩) ?_ ?_
                 rotate_left
                 · intro w'
                   go_simp
                   with_reducible rfl
                 rotate_left
                 · simp only [Act.put, List.setIfInBounds_toArray, List.set_cons_zero, List.set_cons_succ, i64_w, i32_w]
                   rfl
                 refine pure_ (i := 24) (N := some 114) (v := ?_) (a' := ?_) #[true, false, true, true, false, true, true, false, true, true, false, false, true, false, true, false, true, true, false, true, false, true, false, true, true, false, false, false, false] rfl rfl (any_of HT_.out (by kernel_rfl)) (fun _ _ _ h => h) (Or.inl ⟨by rfl, ?_⟩) ?_ ?_
                 rotate_left
                 · intro w'
                   go_simp
                   with_reducible rfl
                 rotate_left
                 · simp only [Act.put, List.setIfInBounds_toArray, List.set_cons_zero, List.set_cons_succ, i64_w, i32_w]
                   rfl
                 refine take_ (i := 1) (N := some 91) (v := ?_) (a' := ?_) #[true, true, true, true, false, true, true, false, true, true, false, false, true, false, true, false, true, true, false, true, false, true, false, true, true, false, false, false, false] rfl rfl (take_ofW HT_.out HW_.out (by kernel_rfl)) (fun _ _ _ h => h) (Or.inl ⟨by rfl, ?_⟩) hHeld ?_ ?_
                 rotate_left
                 · rintro w' ⟨s0, s1, s2, s3, s4, s5, s6, s7, s8, s9, s10, s11, s12, s13⟩
                   go_simp
                   with_reducible rfl
                 rotate_left
                 · simp only [Act.put, List.setIfInBounds_toArray, List.set_cons_zero, List.set_cons_succ, i64_w, i32_w]
                   rfl
                 refine take_ (i := 4) (N := some 94) (v := ?_) (a' := ?_) #[true, true, true, true, true, true, true, false, true, true, false, false, true, false, true, false, true, true, false, true, false, true, false, true, true, false, false, false, false] rfl rfl (take_ofW HT_.out HW_.out (by kernel_rfl)) (fun _ _ _ h => h) (Or.inl ⟨by rfl, ?_⟩) hHeld ?_ ?_
                 rotate_left
                 · rintro w' ⟨s0, s1, s2, s3, s4, s5, s6, s7, s8, s9, s10, s11, s12, s13⟩
                   go_simp
                   with_reducible rfl
                 rotate_left
                 · simp only [Act.put, List.setIfInBounds_toArray, List.set_cons_zero, List.set_cons_succ, i64_w, i32_w]
                   rfl
                 refine take_ (i := 7) (N := some 97) (v := ?_) (a' := ?_) #[true, true, true, true, true, true, true, true, true, true, false, false, true, false, true, false, true, true, false, true, false, true, false, true, true, false, false, false, false] rfl rfl (take_ofW HT_.out HW_.out (by kernel_rfl)) (fun _ _ _ h => h) (Or.inl ⟨by rfl, ?_⟩) hHeld ?_ ?_
                 rotate_left
                 · rintro w' ⟨s0, s1, s2, s3, s4, s5, s6, s7, s8, s9, s10, s11, s12, s13⟩
                   go_simp
                   with_reducible rfl
                 rotate_left
                 · simp only [Act.put, List.setIfInBounds_toArray, List.set_cons_zero, List.set_cons_succ, i64_w, i32_w]
                   rfl
                 refine take_ (i := 13) (N := some 103) (v := ?_) (a' := ?_) #[true, true, true, true, true, true, true, true, true, true, false, false, true, true, true, false, true, true, false, true, false, true, false, true, true, false, false, false, false] rfl rfl (take_ofW HT_.out HW_.out (by kernel_rfl)) (fun _ _ _ h => h) (Or.inl ⟨by rfl, ?_⟩) hHeld ?_ ?_
                 rotate_left
                 · rintro w' ⟨s0, s1, s2, s3, s4, s5, s6, s7, s8, s9, s10, s11, s12, s13⟩
                   go_simp
                   with_reducible rfl
                 rotate_left
                 · simp only [Act.put, List.setIfInBounds_toArray, List.set_cons_zero, List.set_cons_succ, i64_w, i32_w]
                   rfl
                 refine take_ (i := 15) (N := some 105) (v := ?_) (a' := ?_) #[true, true, true, true, true, true, true, true, true, true, false, false, true, true, true, true, true, true, false, true, false, true, false, true, true, false, false, false, false] rfl rfl (take_ofW HT_.out HW_.out (by kernel_rfl)) (fun _ _ _ h => h) (Or.inl ⟨by rfl, ?_⟩) hHeld ?_ ?_
                 rotate_left
                 · rintro w' ⟨s0, s1, s2, s3, s4, s5, s6, s7, s8, s9, s10, s11, s12, s13⟩
                   go_simp
                   with_reducible rfl
                 rotate_left
                 · simp only [Act.put, List.setIfInBounds_toArray, List.set_cons_zero, List.set_cons_succ, i64_w, i32_w]
                   rfl
                 refine take_ (i := 20) (N := some 110) (v := ?_) (a' := ?_) #[true, true, true, true, true, true, true, true, true, true, false, false, true, true, true, true, true, true, false, true, true, true, false, true, true, false, false, false, false] rfl rfl (take_ofW HT_.out HW_.out (by kernel_rfl)) (fun _ _ _ h => h) (Or.inl ⟨by rfl, ?_⟩) hHeld ?_ ?_
                 rotate_left
                 · rintro w' ⟨s0, s1, s2, s3, s4, s5, s6, s7, s8, s9, s10, s11, s12, s13⟩
                   go_simp
                   with_reducible rfl
                 rotate_left
                 · simp only [Act.put, List.setIfInBounds_toArray, List.set_cons_zero, List.set_cons_succ, i64_w, i32_w]
                   rfl
                 refine take_ (i := 22) (N := some 112) (v := ?_) (a' := ?_) #[true, true, true, true, true, true, true, true, true, true, false, false, true, true, true, true, true, true, false, true, true, true, true, true, true, false, false, false, false] rfl rfl (take_ofW HT_.out HW_.out (by kernel_rfl)) (fun _ _ _ h => h) (Or.inl ⟨by rfl, ?_⟩) hHeld ?_ ?_
                 rotate_left
                 · rintro w' ⟨s0, s1, s2, s3, s4, s5, s6, s7, s8, s9, s10, s11, s12, s13⟩
                   go_simp
                   with_reducible rfl
                 rotate_left
                 · simp only [Act.put, List.setIfInBounds_toArray, List.set_cons_zero, List.set_cons_succ, i64_w, i32_w]
                   rfl
                 refine one_ (i := 10) (N := some 100) #[true, true, true, true, true, true, true, true, true, true, true, false, true, true, true, true, true, true, false, true, true, true, true, true, true, false, false, false, false] rfl rfl (one_of HT_.out (by kernel_rfl)) (by decide) (fun K hK => ?_)
                 refine goes_ Try.func114 (by kernel_rfl) rfl #[.int .i64 ((rd_T88 l0 x6_11).f0.f2), .int .i64 ((rd_T88 l0 (ji24)).f0.f2), .int .i64 (wrap64 (a1 - ((rd_T88 l0 x6_11).f0.f0))), .int .i64 (wrap64 (((rd_T88 l0 (ji24)).f0.f0) - ((rd_T88 l0 x6_11).f0.f0)))] (by rfl) rfl rfl (by (try simp only [List.map_toArray, List.map_cons, List.map_nil]); first | done | (simp only [hji24]; rfl) | rfl | (simp only [List.length_drop, List.length_take]; rfl)) ?_
                 with_reducible refine (tube_between.calls kj11 ((rd_T88 l0 x6_11).f0.f2) ((rd_T88 l0 (ji24)).f0.f2) (wrap64 (a1 - ((rd_T88 l0 x6_11).f0.f0))) (wrap64 (((rd_T88 l0 (ji24)).f0.f0) - ((rd_T88 l0 x6_11).f0.f0))) t133 _ A28.out).mono ?_
                 rintro e wze5 ⟨rfl, hb⟩
                 refine ⟨_, rfl, ?_⟩
                 have n0_ := Aside0.mk (blk_below (g := gb121) (o := .cells #[.int .i64 0, .int .i64 0, .int .i64 0, .int .i64 0, .int .i64 0, .int .i64 0] 88 (0, 0)) (by (with_reducible repeat (first | refine blk_drewN ?_ _ | refine blk_drew ?_ | refine blk_alloc ?_ _)); exact BK121.out) hb)
                 have n1_ := Aside0.mk (blk_below (g := gb126) (o := .cells #[.int .i64 ((rd_T88 l0 x6_11).f0.f0), .int .i64 ((rd_T88 l0 x6_11).f0.f1.f0), .int .i64 ((rd_T88 l0 x6_11).f0.f1.f1), .int .i64 ((rd_T88 l0 x6_11).f0.f2), .int .i64 ((rd_T88 l0 x6_11).f1), .int .i64 ((rd_T88 l0 x6_11).f2)] 88 (0, 0)) (by (with_reducible repeat (first | refine blk_drewN ?_ _ | refine blk_drew ?_ | refine blk_alloc ?_ _)); exact BK126.out) hb)
                 have n2_ := Aside0.mk (blk_below (g := gb128) (o := .cells #[.int .i64 ((rd_T88 l0 (ji24)).f0.f0), .int .i64 ((rd_T88 l0 (ji24)).f0.f1.f0), .int .i64 ((rd_T88 l0 (ji24)).f0.f1.f1), .int .i64 ((rd_T88 l0 (ji24)).f0.f2), .int .i64 ((rd_T88 l0 (ji24)).f1), .int .i64 ((rd_T88 l0 (ji24)).f2)] 88 (0, 0)) (by (with_reducible repeat (first | refine blk_drewN ?_ _ | refine blk_drew ?_ | refine blk_alloc ?_ _)); exact BK128.out) hb)
                 have n3_ := Aside0.mk (blk_below (g := gb132) (o := .cells #[.int .i64 t129, .int .i64 t130] 36 (0, 0)) (by (with_reducible repeat (first | refine blk_drewN ?_ _ | refine blk_drew ?_ | refine blk_alloc ?_ _)); exact BK132.out) hb)
                 have n4_ := Aside0.mk (below_step (by repeat (first | (with_reducible first | exact HB.out | apply below_alloc | apply pw_below_drewN | apply below_drew1 | refine below_set ?_ GE121.out | refine below_set ?_ GE126.out | refine below_set ?_ GE128.out | refine below_set ?_ GE132.out) | exact HB.out)) hb)
                 clear BK121
                 clear BK126
                 clear BK128
                 clear BK132
                 clear HB
                 have BK121 := n0_
                 have BK126 := n1_
                 have BK128 := n2_
                 have BK132 := n3_
                 have HB := n4_
                 clear n0_ n1_ n2_ n3_ n4_
                 (try clear hb)
                 (try clear hb2)
                 (try clear hk)
                 (try clear hi)
                 refine hK.out _ _ ⟨(blk_cell BK132.out 0).trans rfl, (blk_cell BK132.out 1).trans rfl, (blk_cell BK126.out 0).trans rfl, (blk_cell BK126.out 1).trans rfl, (blk_cell BK126.out 2).trans rfl, (blk_cell BK126.out 3).trans rfl, (blk_cell BK126.out 4).trans rfl, (blk_cell BK126.out 5).trans rfl, (blk_cell BK128.out 0).trans rfl, (blk_cell BK128.out 1).trans rfl, (blk_cell BK128.out 2).trans rfl, (blk_cell BK128.out 3).trans rfl, (blk_cell BK128.out 4).trans rfl, (blk_cell BK128.out 5).trans rfl⟩ (fun hHeld => ?_)
                 clear hK K
                 refine norm_ (a' := ?_) ?_ ?_
                 rotate_left
                 · show Act.put _ (some 100) _ = _
                   simp only [Act.put, List.setIfInBounds_toArray, List.set_cons_zero, List.set_cons_succ, i64_w, i32_w]
                   rfl
                 refine pure_ (i := 11) (N := some 101) (v := ?_) (a' := ?_) #[true, true, true, true, true, true, true, true, true, true, true, true, true, true, true, true, true, true, false, true, true, true, true, true, true, false, false, false, false] rfl rfl (any_of HT_.out (by kernel_rfl)) (fun _ _ _ h => h) (Or.inl ⟨by rfl, ?_⟩) ?_ ?_
                 rotate_left
                 · intro w'
                   go_simp
                   with_reducible rfl
                 rotate_left
                 · simp only [Act.put, List.setIfInBounds_toArray, List.set_cons_zero, List.set_cons_succ, i64_w, i32_w]
                   rfl
                 refine one_ (i := 18) (N := some 108) #[true, true, true, true, true, true, true, true, true, true, true, true, true, true, true, true, true, true, true, true, true, true, true, true, true, false, false, false, false] rfl rfl (one_of HT_.out (by kernel_rfl)) (by decide) (fun K hK => ?_)
                 refine goes_ Try.func115 (by kernel_rfl) rfl #[.int .i64 ((rd_T88 l0 x6_11).f1), .int .i64 ((rd_T88 l0 (ji24)).f1), .int .i64 (wrap64 (a1 - ((rd_T88 l0 x6_11).f0.f0))), .int .i64 (wrap64 (((rd_T88 l0 (ji24)).f0.f0) - ((rd_T88 l0 x6_11).f0.f0)))] (by rfl) rfl rfl (by (try simp only [List.map_toArray, List.map_cons, List.map_nil]); first | done | (simp only [hji24]; rfl) | rfl | (simp only [List.length_drop, List.length_take]; rfl)) ?_
                 with_reducible refine (tube_above.calls kj11 ((rd_T88 l0 x6_11).f1) ((rd_T88 l0 (ji24)).f1) (wrap64 (a1 - ((rd_T88 l0 x6_11).f0.f0))) (wrap64 (((rd_T88 l0 (ji24)).f0.f0) - ((rd_T88 l0 x6_11).f0.f0))) t134 _ A29.out).mono ?_
                 rintro e wze6 ⟨rfl, hb⟩
                 refine ⟨_, rfl, ?_⟩
                 have n0_ := Aside0.mk (blk_below (g := gb121) (o := .cells #[.int .i64 0, .int .i64 0, .int .i64 0, .int .i64 0, .int .i64 0, .int .i64 0] 88 (0, 0)) (by (with_reducible repeat (first | refine blk_drewN ?_ _ | refine blk_drew ?_ | refine blk_alloc ?_ _)); exact BK121.out) hb)
                 have n1_ := Aside0.mk (blk_below (g := gb126) (o := .cells #[.int .i64 ((rd_T88 l0 x6_11).f0.f0), .int .i64 ((rd_T88 l0 x6_11).f0.f1.f0), .int .i64 ((rd_T88 l0 x6_11).f0.f1.f1), .int .i64 ((rd_T88 l0 x6_11).f0.f2), .int .i64 ((rd_T88 l0 x6_11).f1), .int .i64 ((rd_T88 l0 x6_11).f2)] 88 (0, 0)) (by (with_reducible repeat (first | refine blk_drewN ?_ _ | refine blk_drew ?_ | refine blk_alloc ?_ _)); exact BK126.out) hb)
                 have n2_ := Aside0.mk (blk_below (g := gb128) (o := .cells #[.int .i64 ((rd_T88 l0 (ji24)).f0.f0), .int .i64 ((rd_T88 l0 (ji24)).f0.f1.f0), .int .i64 ((rd_T88 l0 (ji24)).f0.f1.f1), .int .i64 ((rd_T88 l0 (ji24)).f0.f2), .int .i64 ((rd_T88 l0 (ji24)).f1), .int .i64 ((rd_T88 l0 (ji24)).f2)] 88 (0, 0)) (by (with_reducible repeat (first | refine blk_drewN ?_ _ | refine blk_drew ?_ | refine blk_alloc ?_ _)); exact BK128.out) hb)
                 have n3_ := Aside0.mk (blk_below (g := gb132) (o := .cells #[.int .i64 t129, .int .i64 t130] 36 (0, 0)) (by (with_reducible repeat (first | refine blk_drewN ?_ _ | refine blk_drew ?_ | refine blk_alloc ?_ _)); exact BK132.out) hb)
                 have n4_ := Aside0.mk (below_step (by repeat (first | (with_reducible first | exact HB.out | apply below_alloc | apply pw_below_drewN | apply below_drew1 | refine below_set ?_ GE121.out | refine below_set ?_ GE126.out | refine below_set ?_ GE128.out | refine below_set ?_ GE132.out) | exact HB.out)) hb)
                 clear BK121
                 clear BK126
                 clear BK128
                 clear BK132
                 clear HB
                 have BK121 := n0_
                 have BK126 := n1_
                 have BK128 := n2_
                 have BK132 := n3_
                 have HB := n4_
                 clear n0_ n1_ n2_ n3_ n4_
                 (try clear hb)
                 (try clear hb2)
                 (try clear hk)
                 (try clear hi)
                 refine hK.out _ _ ⟨(blk_cell BK132.out 0).trans rfl, (blk_cell BK132.out 1).trans rfl, (blk_cell BK126.out 0).trans rfl, (blk_cell BK126.out 1).trans rfl, (blk_cell BK126.out 2).trans rfl, (blk_cell BK126.out 3).trans rfl, (blk_cell BK126.out 4).trans rfl, (blk_cell BK126.out 5).trans rfl, (blk_cell BK128.out 0).trans rfl, (blk_cell BK128.out 1).trans rfl, (blk_cell BK128.out 2).trans rfl, (blk_cell BK128.out 3).trans rfl, (blk_cell BK128.out 4).trans rfl, (blk_cell BK128.out 5).trans rfl⟩ (fun hHeld => ?_)
                 clear hK K
                 refine norm_ (a' := ?_) ?_ ?_
                 rotate_left
                 · show Act.put _ (some 108) _ = _
                   simp only [Act.put, List.setIfInBounds_toArray, List.set_cons_zero, List.set_cons_succ, i64_w, i32_w]
                   rfl
                 refine one_ (i := 25) (N := some 115) #[true, true, true, true, true, true, true, true, true, true, true, true, true, true, true, true, true, true, true, true, true, true, true, true, true, true, false, false, false] rfl rfl (one_of HT_.out (by kernel_rfl)) (by decide) (fun K hK => ?_)
                 refine goes_ Try.func115 (by kernel_rfl) rfl #[.int .i64 ((rd_T88 l0 x6_11).f2), .int .i64 ((rd_T88 l0 (ji24)).f2), .int .i64 (wrap64 (a1 - ((rd_T88 l0 x6_11).f0.f0))), .int .i64 (wrap64 (((rd_T88 l0 (ji24)).f0.f0) - ((rd_T88 l0 x6_11).f0.f0)))] (by rfl) rfl rfl (by (try simp only [List.map_toArray, List.map_cons, List.map_nil]); first | done | (simp only [hji24]; rfl) | rfl | (simp only [List.length_drop, List.length_take]; rfl)) ?_
                 with_reducible refine (tube_above.calls kj11 ((rd_T88 l0 x6_11).f2) ((rd_T88 l0 (ji24)).f2) (wrap64 (a1 - ((rd_T88 l0 x6_11).f0.f0))) (wrap64 (((rd_T88 l0 (ji24)).f0.f0) - ((rd_T88 l0 x6_11).f0.f0))) t135 _ A30.out).mono ?_
                 rintro e wze7 ⟨rfl, hb⟩
                 refine ⟨_, rfl, ?_⟩
                 have n0_ := Aside0.mk (blk_below (g := gb121) (o := .cells #[.int .i64 0, .int .i64 0, .int .i64 0, .int .i64 0, .int .i64 0, .int .i64 0] 88 (0, 0)) (by (with_reducible repeat (first | refine blk_drewN ?_ _ | refine blk_drew ?_ | refine blk_alloc ?_ _)); exact BK121.out) hb)
                 have n1_ := Aside0.mk (blk_below (g := gb126) (o := .cells #[.int .i64 ((rd_T88 l0 x6_11).f0.f0), .int .i64 ((rd_T88 l0 x6_11).f0.f1.f0), .int .i64 ((rd_T88 l0 x6_11).f0.f1.f1), .int .i64 ((rd_T88 l0 x6_11).f0.f2), .int .i64 ((rd_T88 l0 x6_11).f1), .int .i64 ((rd_T88 l0 x6_11).f2)] 88 (0, 0)) (by (with_reducible repeat (first | refine blk_drewN ?_ _ | refine blk_drew ?_ | refine blk_alloc ?_ _)); exact BK126.out) hb)
                 have n2_ := Aside0.mk (blk_below (g := gb128) (o := .cells #[.int .i64 ((rd_T88 l0 (ji24)).f0.f0), .int .i64 ((rd_T88 l0 (ji24)).f0.f1.f0), .int .i64 ((rd_T88 l0 (ji24)).f0.f1.f1), .int .i64 ((rd_T88 l0 (ji24)).f0.f2), .int .i64 ((rd_T88 l0 (ji24)).f1), .int .i64 ((rd_T88 l0 (ji24)).f2)] 88 (0, 0)) (by (with_reducible repeat (first | refine blk_drewN ?_ _ | refine blk_drew ?_ | refine blk_alloc ?_ _)); exact BK128.out) hb)
                 have n3_ := Aside0.mk (blk_below (g := gb132) (o := .cells #[.int .i64 t129, .int .i64 t130] 36 (0, 0)) (by (with_reducible repeat (first | refine blk_drewN ?_ _ | refine blk_drew ?_ | refine blk_alloc ?_ _)); exact BK132.out) hb)
                 have n4_ := Aside0.mk (below_step (by repeat (first | (with_reducible first | exact HB.out | apply below_alloc | apply pw_below_drewN | apply below_drew1 | refine below_set ?_ GE121.out | refine below_set ?_ GE126.out | refine below_set ?_ GE128.out | refine below_set ?_ GE132.out) | exact HB.out)) hb)
                 clear BK121
                 clear BK126
                 clear BK128
                 clear BK132
                 clear HB
                 have BK121 := n0_
                 have BK126 := n1_
                 have BK128 := n2_
                 have BK132 := n3_
                 have HB := n4_
                 clear n0_ n1_ n2_ n3_ n4_
                 (try clear hb)
                 (try clear hb2)
                 (try clear hk)
                 (try clear hi)
                 refine hK.out _ _ ⟨(blk_cell BK132.out 0).trans rfl, (blk_cell BK132.out 1).trans rfl, (blk_cell BK126.out 0).trans rfl, (blk_cell BK126.out 1).trans rfl, (blk_cell BK126.out 2).trans rfl, (blk_cell BK126.out 3).trans rfl, (blk_cell BK126.out 4).trans rfl, (blk_cell BK126.out 5).trans rfl, (blk_cell BK128.out 0).trans rfl, (blk_cell BK128.out 1).trans rfl, (blk_cell BK128.out 2).trans rfl, (blk_cell BK128.out 3).trans rfl, (blk_cell BK128.out 4).trans rfl, (blk_cell BK128.out 5).trans rfl⟩ (fun hHeld => ?_)
                 clear hK K
                 refine norm_ (a' := ?_) ?_ ?_
                 rotate_left
                 · show Act.put _ (some 115) _ = _
                   simp only [Act.put, List.setIfInBounds_toArray, List.set_cons_zero, List.set_cons_succ, i64_w, i32_w]
                   rfl
                 refine pure_ (i := 26) (N := some 116) (v := ?_) (a' := ?_) #[true, true, true, true, true, true, true, true, true, true, true, true, true, true, true, true, true, true, true, true, true, true, true, true, true, true, true, false, false] rfl rfl (any_of HT_.out (by kernel_rfl)) (fun _ _ _ h => h) (Or.inl ⟨by rfl, ?_⟩) ?_ ?_
                 rotate_left
                 · intro w'
                   go_simp
                   with_reducible rfl
                 rotate_left
                 · simp only [Act.put, List.setIfInBounds_toArray, List.set_cons_zero, List.set_cons_succ, i64_w, i32_w]
                   rfl
                 refine one_ (i := 27) (N := none) #[true, true, true, true, true, true, true, true, true, true, true, true, true, true, true, true, true, true, true, true, true, true, true, true, true, true, true, true, false] rfl rfl (one_of HT_.out (by kernel_rfl)) (by decide) (fun K hK => ?_)
                 have hsze1 : wze7.cell? ⟨gb121, 0, none⟩ = some (.int .i64 0) := (blk_cell BK121.out 0).trans rfl
                 have hfsze1 := blk_frozen BK121.out 0
                 have hnsze1 := NB126_121.out
                 have hnsze2 := NB128_121.out
                 have hnsze3 := NB132_121.out
                 have hmsze1 := NB121_126.out
                 have hmsze2 := NB121_128.out
                 have hmsze3 := NB121_132.out
                 have hsze2 : wze7.cell? ⟨gb121, 1, none⟩ = some (.int .i64 0) := (blk_cell BK121.out 1).trans rfl
                 have hfsze2 := blk_frozen BK121.out 1
                 have hnsze4 := NB126_121.out
                 have hnsze5 := NB128_121.out
                 have hnsze6 := NB132_121.out
                 have hmsze4 := NB121_126.out
                 have hmsze5 := NB121_128.out
                 have hmsze6 := NB121_132.out
                 have hsze3 : wze7.cell? ⟨gb121, 2, none⟩ = some (.int .i64 0) := (blk_cell BK121.out 2).trans rfl
                 have hfsze3 := blk_frozen BK121.out 2
                 have hnsze7 := NB126_121.out
                 have hnsze8 := NB128_121.out
                 have hnsze9 := NB132_121.out
                 have hmsze7 := NB121_126.out
                 have hmsze8 := NB121_128.out
                 have hmsze9 := NB121_132.out
                 have hsze4 : wze7.cell? ⟨gb121, 3, none⟩ = some (.int .i64 0) := (blk_cell BK121.out 3).trans rfl
                 have hfsze4 := blk_frozen BK121.out 3
                 have hnsze10 := NB126_121.out
                 have hnsze11 := NB128_121.out
                 have hnsze12 := NB132_121.out
                 have hmsze10 := NB121_126.out
                 have hmsze11 := NB121_128.out
                 have hmsze12 := NB121_132.out
                 have hsze5 : wze7.cell? ⟨gb121, 4, none⟩ = some (.int .i64 0) := (blk_cell BK121.out 4).trans rfl
                 have hfsze5 := blk_frozen BK121.out 4
                 have hnsze13 := NB126_121.out
                 have hnsze14 := NB128_121.out
                 have hnsze15 := NB132_121.out
                 have hmsze13 := NB121_126.out
                 have hmsze14 := NB121_128.out
                 have hmsze15 := NB121_132.out
                 have hsze6 : wze7.cell? ⟨gb121, 5, none⟩ = some (.int .i64 0) := (blk_cell BK121.out 5).trans rfl
                 have hfsze6 := blk_frozen BK121.out 5
                 have hnsze16 := NB126_121.out
                 have hnsze17 := NB128_121.out
                 have hnsze18 := NB132_121.out
                 have hmsze16 := NB121_126.out
                 have hmsze17 := NB121_128.out
                 have hmsze18 := NB121_132.out
                 (with_reducible refine skip_ (w1 := ?_) ?hA_ ?hB_ ?_ ?_); (case hA_ => rfl); (case hB_ => rfl)
                 rotate_left
                 · go_simp
                   rfl
                 refine hK.out _ _ ⟨((cell_far (p := ⟨gb121, _, none⟩) NB132_121.out _).trans (((cell_far (p := ⟨gb121, _, none⟩) NB132_121.out _).trans (((cell_far (p := ⟨gb121, _, none⟩) NB132_121.out _).trans (((cell_far (p := ⟨gb121, _, none⟩) NB132_121.out _).trans (((cell_far (p := ⟨gb121, _, none⟩) NB132_121.out _).trans (((cell_far (p := ⟨gb121, _, none⟩) NB132_121.out _).trans (hHeld.1)))))))))))), ((cell_far (p := ⟨gb121, _, none⟩) NB132_121.out _).trans (((cell_far (p := ⟨gb121, _, none⟩) NB132_121.out _).trans (((cell_far (p := ⟨gb121, _, none⟩) NB132_121.out _).trans (((cell_far (p := ⟨gb121, _, none⟩) NB132_121.out _).trans (((cell_far (p := ⟨gb121, _, none⟩) NB132_121.out _).trans (((cell_far (p := ⟨gb121, _, none⟩) NB132_121.out _).trans (hHeld.2.1)))))))))))), ((cell_far (p := ⟨gb121, _, none⟩) NB126_121.out _).trans (((cell_far (p := ⟨gb121, _, none⟩) NB126_121.out _).trans (((cell_far (p := ⟨gb121, _, none⟩) NB126_121.out _).trans (((cell_far (p := ⟨gb121, _, none⟩) NB126_121.out _).trans (((cell_far (p := ⟨gb121, _, none⟩) NB126_121.out _).trans (((cell_far (p := ⟨gb121, _, none⟩) NB126_121.out _).trans (hHeld.2.2.1)))))))))))), ((cell_far (p := ⟨gb121, _, none⟩) NB126_121.out _).trans (((cell_far (p := ⟨gb121, _, none⟩) NB126_121.out _).trans (((cell_far (p := ⟨gb121, _, none⟩) NB126_121.out _).trans (((cell_far (p := ⟨gb121, _, none⟩) NB126_121.out _).trans (((cell_far (p := ⟨gb121, _, none⟩) NB126_121.out _).trans (((cell_far (p := ⟨gb121, _, none⟩) NB126_121.out _).trans (hHeld.2.2.2.1)))))))))))), ((cell_far (p := ⟨gb121, _, none⟩) NB126_121.out _).trans (((cell_far (p := ⟨gb121, _, none⟩) NB126_121.out _).trans (((cell_far (p := ⟨gb121, _, none⟩) NB126_121.out _).trans (((cell_far (p := ⟨gb121, _, none⟩) NB126_121.out _).trans (((cell_far (p := ⟨gb121, _, none⟩) NB126_121.out _).trans (((cell_far (p := ⟨gb121, _, none⟩) NB126_121.out _).trans (hHeld.2.2.2.2.1)))))))))))), ((cell_far (p := ⟨gb121, _, none⟩) NB126_121.out _).trans (((cell_far (p := ⟨gb121, _, none⟩) NB126_121.out _).trans (((cell_far (p := ⟨gb121, _, none⟩) NB126_121.out _).trans (((cell_far (p := ⟨gb121, _, none⟩) NB126_121.out _).trans (((cell_far (p := ⟨gb121, _, none⟩) NB126_121.out _).trans (((cell_far (p := ⟨gb121, _, none⟩) NB126_121.out _).trans (hHeld.2.2.2.2.2.1)))))))))))), ((cell_far (p := ⟨gb121, _, none⟩) NB126_121.out _).trans (((cell_far (p := ⟨gb121, _, none⟩) NB126_121.out _).trans (((cell_far (p := ⟨gb121, _, none⟩) NB126_121.out _).trans (((cell_far (p := ⟨gb121, _, none⟩) NB126_121.out _).trans (((cell_far (p := ⟨gb121, _, none⟩) NB126_121.out _).trans (((cell_far (p := ⟨gb121, _, none⟩) NB126_121.out _).trans (hHeld.2.2.2.2.2.2.1)))))))))))), ((cell_far (p := ⟨gb121, _, none⟩) NB126_121.out _).trans (((cell_far (p := ⟨gb121, _, none⟩) NB126_121.out _).trans (((cell_far (p := ⟨gb121, _, none⟩) NB126_121.out _).trans (((cell_far (p := ⟨gb121, _, none⟩) NB126_121.out _).trans (((cell_far (p := ⟨gb121, _, none⟩) NB126_121.out _).trans (((cell_far (p := ⟨gb121, _, none⟩) NB126_121.out _).trans (hHeld.2.2.2.2.2.2.2.1)))))))))))), ((cell_far (p := ⟨gb121, _, none⟩) NB128_121.out _).trans (((cell_far (p := ⟨gb121, _, none⟩) NB128_121.out _).trans (((cell_far (p := ⟨gb121, _, none⟩) NB128_121.out _).trans (((cell_far (p := ⟨gb121, _, none⟩) NB128_121.out _).trans (((cell_far (p := ⟨gb121, _, none⟩) NB128_121.out _).trans (((cell_far (p := ⟨gb121, _, none⟩) NB128_121.out _).trans (hHeld.2.2.2.2.2.2.2.2.1)))))))))))), ((cell_far (p := ⟨gb121, _, none⟩) NB128_121.out _).trans (((cell_far (p := ⟨gb121, _, none⟩) NB128_121.out _).trans (((cell_far (p := ⟨gb121, _, none⟩) NB128_121.out _).trans (((cell_far (p := ⟨gb121, _, none⟩) NB128_121.out _).trans (((cell_far (p := ⟨gb121, _, none⟩) NB128_121.out _).trans (((cell_far (p := ⟨gb121, _, none⟩) NB128_121.out _).trans (hHeld.2.2.2.2.2.2.2.2.2.1)))))))))))), ((cell_far (p := ⟨gb121, _, none⟩) NB128_121.out _).trans (((cell_far (p := ⟨gb121, _, none⟩) NB128_121.out _).trans (((cell_far (p := ⟨gb121, _, none⟩) NB128_121.out _).trans (((cell_far (p := ⟨gb121, _, none⟩) NB128_121.out _).trans (((cell_far (p := ⟨gb121, _, none⟩) NB128_121.out _).trans (((cell_far (p := ⟨gb121, _, none⟩) NB128_121.out _).trans (hHeld.2.2.2.2.2.2.2.2.2.2.1)))))))))))), ((cell_far (p := ⟨gb121, _, none⟩) NB128_121.out _).trans (((cell_far (p := ⟨gb121, _, none⟩) NB128_121.out _).trans (((cell_far (p := ⟨gb121, _, none⟩) NB128_121.out _).trans (((cell_far (p := ⟨gb121, _, none⟩) NB128_121.out _).trans (((cell_far (p := ⟨gb121, _, none⟩) NB128_121.out _).trans (((cell_far (p := ⟨gb121, _, none⟩) NB128_121.out _).trans (hHeld.2.2.2.2.2.2.2.2.2.2.2.1)))))))))))), ((cell_far (p := ⟨gb121, _, none⟩) NB128_121.out _).trans (((cell_far (p := ⟨gb121, _, none⟩) NB128_121.out _).trans (((cell_far (p := ⟨gb121, _, none⟩) NB128_121.out _).trans (((cell_far (p := ⟨gb121, _, none⟩) NB128_121.out _).trans (((cell_far (p := ⟨gb121, _, none⟩) NB128_121.out _).trans (((cell_far (p := ⟨gb121, _, none⟩) NB128_121.out _).trans (hHeld.2.2.2.2.2.2.2.2.2.2.2.2.1)))))))))))), ((cell_far (p := ⟨gb121, _, none⟩) NB128_121.out _).trans (((cell_far (p := ⟨gb121, _, none⟩) NB128_121.out _).trans (((cell_far (p := ⟨gb121, _, none⟩) NB128_121.out _).trans (((cell_far (p := ⟨gb121, _, none⟩) NB128_121.out _).trans (((cell_far (p := ⟨gb121, _, none⟩) NB128_121.out _).trans (((cell_far (p := ⟨gb121, _, none⟩) NB128_121.out _).trans (hHeld.2.2.2.2.2.2.2.2.2.2.2.2.2))))))))))))⟩ (fun hHeld => ?_)
                 clear hK K
                 refine pure_ (i := 28) (N := some 5) (v := ?_) (a' := ?_) #[true, true, true, true, true, true, true, true, true, true, true, true, true, true, true, true, true, true, true, true, true, true, true, true, true, true, true, true, true] rfl rfl (any_of HT_.out (by kernel_rfl)) (fun _ _ _ h => h) (Or.inl ⟨by rfl, ?_⟩) ?_ ?_
                 rotate_left
                 · intro w'
                   go_simp
                   with_reducible rfl
                 rotate_left
                 · simp only [Act.put, List.setIfInBounds_toArray, List.set_cons_zero, List.set_cons_succ, i64_w, i32_w]
                   rfl
                 refine done_ (done_of HT_.out (by kernel_rfl)) ?_
                 try go_wp2
                 refine bodyPost_ret (results_ct rfl _ _ gb121 88 #[.int .i64 a1, .int .i64 t129, .int .i64 t130, .int .i64 t133, .int .i64 t134, .int .i64 t135] (0, 0) _ rfl (by (with_reducible repeat (first | refine blk_drewN ?_ _ | refine blk_drew ?_ | refine blk_alloc ?_ _)); refine blk_put (cs := #[.int .i64 a1, .int .i64 t129, .int .i64 t130, .int .i64 t133, .int .i64 t134, .int .i64 0]) ?_ 5 _ rfl; (with_reducible repeat (first | refine blk_drewN ?_ _ | refine blk_drew ?_ | refine blk_alloc ?_ _)); refine blk_put (cs := #[.int .i64 a1, .int .i64 t129, .int .i64 t130, .int .i64 t133, .int .i64 0, .int .i64 0]) ?_ 4 _ rfl; (with_reducible repeat (first | refine blk_drewN ?_ _ | refine blk_drew ?_ | refine blk_alloc ?_ _)); refine blk_put (cs := #[.int .i64 a1, .int .i64 t129, .int .i64 t130, .int .i64 0, .int .i64 0, .int .i64 0]) ?_ 3 _ rfl; (with_reducible repeat (first | refine blk_drewN ?_ _ | refine blk_drew ?_ | refine blk_alloc ?_ _)); refine blk_put (cs := #[.int .i64 a1, .int .i64 t129, .int .i64 0, .int .i64 0, .int .i64 0, .int .i64 0]) ?_ 2 _ rfl; (with_reducible repeat (first | refine blk_drewN ?_ _ | refine blk_drew ?_ | refine blk_alloc ?_ _)); refine blk_put (cs := #[.int .i64 a1, .int .i64 0, .int .i64 0, .int .i64 0, .int .i64 0, .int .i64 0]) ?_ 1 _ rfl; (with_reducible repeat (first | refine blk_drewN ?_ _ | refine blk_drew ?_ | refine blk_alloc ?_ _)); refine blk_put (cs := #[.int .i64 0, .int .i64 0, .int .i64 0, .int .i64 0, .int .i64 0, .int .i64 0]) ?_ 0 _ rfl; (with_reducible repeat (first | refine blk_drewN ?_ _ | refine blk_drew ?_ | refine blk_alloc ?_ _)); exact BK121.out) Try.underlying88 rfl (by kernel_rfl)) rfl ?_
                 exact ⟨by first | rfl | (simp [errW_none, errW_some] <;> rfl) | (simp only [← hji24]; first | rfl | (simp [errW_none, errW_some] <;> rfl)) | (simp [*, errW_none, errW_some] <;> rfl), by repeat (first | (with_reducible first | exact HB.out | apply below_alloc | apply pw_below_drewN | apply below_drew1 | refine below_set ?_ GE121.out | refine below_set ?_ GE126.out | refine below_set ?_ GE128.out | refine below_set ?_ GE132.out) | exact HB.out)⟩
               · rw [if_neg c26] at H
                 exact absurd H (by simp)
             · rw [if_neg c25] at H
               exact absurd H (by simp)
         · rw [if_neg c18] at H
           exact absurd H (by simp)
       · rw [if_neg c17] at H
         exact absurd H (by simp)

end Go.Proofs.Ytbpbpojnfhhbjaa.PTubeAll
