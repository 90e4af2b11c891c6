/- Made by a program of this session (wip/tools/myprint.py, over the kit's printer): that the Go functions answer as the Lean functions printed beside them. -/
import Derived.Test.YtbpbpojnfhhbjaaPFlyClosedx0
import Derived.Test.YtbpbpojnfhhbjaaPFlyClosedx2
namespace Go.Proofs.Ytbpbpojnfhhbjaa.PFlyClosed
open Go.RowKit Go.Proofs.YtbpbpojnfhhbjaaW.PrintWords Go.Proofs.YtbpbpojnfhhbjaaW.PrintLast Go.Proofs.YtbpbpojnfhhbjaaW.PrintMore
attribute [local go_sem] max2_int min2_int max_two min_two max_three min_three max_four min_four   -- for this text's walks alone
set_option linter.unusedVariables false
set_option linter.unusedSimpArgs false

/-! ### fly_Point: function 77 -/
mutual
def fly_Point.j1 : Nat → List (S71) → Int → Int → Option (Int × Int × Int × Int)
  | 0, _, _, _ => none
  | k + 1, x0, x1, x5 => if 0 ≤ x5 then (if x5 < (x0.length : Int) then (if ((rd_T71 x0 x5).f0) = x1 then (fly_Point.j2 k x0 x1 x5 true ((rd_T71 x0 x5).f0) ((rd_T71 x0 x5).f1.f0) ((rd_T71 x0 x5).f1.f1) ((rd_T71 x0 x5).f2)) else (fly_Point.j2 k x0 x1 x5 ((wrap64 (x5 + 1)) == (x0.length : Int)) ((rd_T71 x0 x5).f0) ((rd_T71 x0 x5).f1.f0) ((rd_T71 x0 x5).f1.f1) ((rd_T71 x0 x5).f2))) else (none)) else (none)
def fly_Point.j2 : Nat → List (S71) → Int → Int → Bool → Int → Int → Int → Int → Option (Int × Int × Int × Int)
  | 0, _, _, _, _, _, _, _, _ => none
  | k + 1, x0, x1, x5, x45, x119000, x119001, x119002, x119003 => if x45 = true then (some (x119000, x119001, x119002, x119003)) else (if 0 ≤ (wrap64 (x5 + 1)) then (if (wrap64 (x5 + 1)) < (x0.length : Int) then ((plane_Toward.f k x119001 x119002 ((rd_T71 x0 (wrap64 (x5 + 1))).f1.f0) ((rd_T71 x0 (wrap64 (x5 + 1))).f1.f1) (wrap64 (x1 - x119000)) (wrap64 (((rd_T71 x0 (wrap64 (x5 + 1))).f0) - x119000))).bind fun bt121 => ((num_DivDown.f k (wrap64 ((wrap64 (((rd_T71 x0 (wrap64 (x5 + 1))).f2) - x119003)) * (wrap64 (x1 - x119000)))) (wrap64 (((rd_T71 x0 (wrap64 (x5 + 1))).f0) - x119000))).bind fun bt125 => (some (x1, bt121.1, bt121.2.1, wrap64 (x119003 + bt125.1))))) else (none)) else (none))
def fly_Point.l0 : Nat → List (S71) → Int → Int → Option (Int × Int × Int × Int)
  | 0, _, _, _ => none
  | k + 1, x0, x1, x5 => if (wrap64 (x5 + 1)) < (x0.length : Int) then (if 0 ≤ (wrap64 (x5 + 1)) then (if ((rd_T71 x0 (wrap64 (x5 + 1))).f0) ≤ x1 then (fly_Point.l0 k x0 x1 (wrap64 (x5 + 1))) else (fly_Point.j1 k x0 x1 x5)) else (none)) else (fly_Point.j1 k x0 x1 x5)
end
def fly_Point.f (k : Nat) (l0 : List (S71)) (a1 : Int) : Option (Int × Int × Int × Int) := fly_Point.l0 k l0 a1 0
theorem fly_Point.mono_l : ∀ k, (∀ y0 y1 y2, LeO (fly_Point.j1 k y0 y1 y2) (fly_Point.j1 (k + 1) y0 y1 y2)) ∧ (∀ y0 y1 y2 y3 y4 y5 y6 y7, LeO (fly_Point.j2 k y0 y1 y2 y3 y4 y5 y6 y7) (fly_Point.j2 (k + 1) y0 y1 y2 y3 y4 y5 y6 y7)) ∧ (∀ y0 y1 y2, LeO (fly_Point.l0 k y0 y1 y2) (fly_Point.l0 (k + 1) y0 y1 y2))
  | 0 => ⟨fun _ _ _ r h => by simp [fly_Point.j1] at h, fun _ _ _ _ _ _ _ _ r h => by simp [fly_Point.j2] at h, fun _ _ _ r h => by simp [fly_Point.l0] at h⟩
  | k + 1 => by
    obtain ⟨ih0, ih1, ih2⟩ := fly_Point.mono_l k
    refine ⟨?_, ?_, ?_⟩
    · intro y0 y1 y2
      unfold fly_Point.j1
      repeat' first
      | (with_reducible exact ih0 _ _ _)
      | (with_reducible exact ih1 _ _ _ _ _ _ _ _)
      | (with_reducible exact ih2 _ _ _)
      | (with_reducible exact num_DivDown.mono _ _ _)
      | (with_reducible exact plane_Toward.mono _ _ _ _ _ _ _)
      | (with_reducible exact LeO.refl _)
      | (with_reducible exact LeO.none _)
      | (with_reducible refine LeO.ite ?_ ?_)
      | (with_reducible refine LeO.bind ?_ (fun _ => ?_))
      | exact ih0 _ _ _
      | exact ih1 _ _ _ _ _ _ _ _
      | exact ih2 _ _ _
      | exact num_DivDown.mono _ _ _
      | exact plane_Toward.mono _ _ _ _ _ _ _
      | exact LeO.none _
      | refine LeO.ite ?_ ?_
      | refine LeO.bind ?_ (fun _ => ?_)
    · intro y0 y1 y2 y3 y4 y5 y6 y7
      unfold fly_Point.j2
      repeat' first
      | (with_reducible exact ih0 _ _ _)
      | (with_reducible exact ih1 _ _ _ _ _ _ _ _)
      | (with_reducible exact ih2 _ _ _)
      | (with_reducible exact num_DivDown.mono _ _ _)
      | (with_reducible exact plane_Toward.mono _ _ _ _ _ _ _)
      | (with_reducible exact LeO.refl _)
      | (with_reducible exact LeO.none _)
      | (with_reducible refine LeO.ite ?_ ?_)
      | (with_reducible refine LeO.bind ?_ (fun _ => ?_))
      | exact ih0 _ _ _
      | exact ih1 _ _ _ _ _ _ _ _
      | exact ih2 _ _ _
      | exact num_DivDown.mono _ _ _
      | exact plane_Toward.mono _ _ _ _ _ _ _
      | exact LeO.none _
      | refine LeO.ite ?_ ?_
      | refine LeO.bind ?_ (fun _ => ?_)
    · intro y0 y1 y2
      unfold fly_Point.l0
      repeat' first
      | (with_reducible exact ih0 _ _ _)
      | (with_reducible exact ih1 _ _ _ _ _ _ _ _)
      | (with_reducible exact ih2 _ _ _)
      | (with_reducible exact num_DivDown.mono _ _ _)
      | (with_reducible exact plane_Toward.mono _ _ _ _ _ _ _)
      | (with_reducible exact LeO.refl _)
      | (with_reducible exact LeO.none _)
      | (with_reducible refine LeO.ite ?_ ?_)
      | (with_reducible refine LeO.bind ?_ (fun _ => ?_))
      | exact ih0 _ _ _
      | exact ih1 _ _ _ _ _ _ _ _
      | exact ih2 _ _ _
      | exact num_DivDown.mono _ _ _
      | exact plane_Toward.mono _ _ _ _ _ _ _
      | exact LeO.none _
      | refine LeO.ite ?_ ?_
      | refine LeO.bind ?_ (fun _ => ?_)
theorem fly_Point.mono : ∀ a0 a1 k, LeO (fly_Point.f k a0 a1) (fly_Point.f (k + 1) a0 a1) := by
  intro a0 a1 k
  obtain ⟨ih0, ih1, ih2⟩ := fly_Point.mono_l k
  unfold fly_Point.f
  repeat' first
      | (with_reducible exact ih0 _ _ _)
      | (with_reducible exact ih1 _ _ _ _ _ _ _ _)
      | (with_reducible exact ih2 _ _ _)
      | (with_reducible exact num_DivDown.mono _ _ _)
      | (with_reducible exact plane_Toward.mono _ _ _ _ _ _ _)
      | (with_reducible exact LeO.refl _)
      | (with_reducible exact LeO.none _)
      | (with_reducible refine LeO.ite ?_ ?_)
      | (with_reducible refine LeO.bind ?_ (fun _ => ?_))
      | exact ih0 _ _ _
      | exact ih1 _ _ _ _ _ _ _ _
      | exact ih2 _ _ _
      | exact num_DivDown.mono _ _ _
      | exact plane_Toward.mono _ _ _ _ _ _ _
      | exact LeO.none _
      | refine LeO.ite ?_ ?_
      | refine LeO.bind ?_ (fun _ => ?_)
set_option maxHeartbeats 8000000 in
set_option maxRecDepth 100000 in
theorem fly_Point.calls (k : Nat) (A0 : Option Addr) (c0 : Nat) (l0 : List (S71)) (a1 : Int) (r1 : Int) (r2 : Int) (r3 : Int) (r4 : Int) (w : World) (hr0 : Kd.C k71 w A0 l0.length l0) (hc0 : l0.length ≤ c0) (h : fly_Point.f k l0 a1 = some (r1, r2, r3, r4)) :
    Calls Try.prog 77 #[.slice A0 l0.length c0, .int .i64 a1] w fun e w' => e = .returned (.agg #[.int .i64 r1, .int .i64 r2, .int .i64 r3, .int .i64 r4]) ∧ Below w.heap.size w w' := by
 have hu71 := Try.underlying71
 have hu36 := Try.underlying36
 have HR0 := Aside0.mk hr0
 have HC0 := Aside0.mk hc0
 clear hr0 hc0
 have HB := Aside0.mk (Below.refl w.heap.size w)
 have H : (fly_Point.l0 k l0 a1 0) = some (r1, r2, r3, r4) := h
 clear h
 have HC3 := Aside0.mk H
 clear H
 go_enter Try.func77, Try.ntmps77
 go_upto_block 0 with (first | ((with_reducible refine gate_dst (N := 4) rfl ?_); refine box_event ?hg (N := 4) ?hd (cs := #[.int .i64 0, .int .i64 0, .int .i64 0, .int .i64 0]) (t := 71) ?hr ?_; (case hd => rfl); (case hg => rfl); (case hr => first | (go_simp; done) | (go_simp; rfl)); intro gb115 hg w4 hbox hb; have n0_ := Aside0.mk (below_step (by repeat (first | (with_reducible first | exact HB.out | apply below_alloc | apply pw_below_drewN | apply below_drew1) | exact HB.out)) hb); have n1_ := Aside0.mk (hbox); have n2_ := Aside0.mk ((by rw [hg]; exact (below_size (by repeat (first | (with_reducible first | exact HB.out | apply below_alloc | apply pw_below_drewN | apply below_drew1) | exact HB.out))) : w.heap.size ≤ gb115)); have n3_ := Aside0.mk ((by rw [hg]; exact (below_size (by repeat (first | (with_reducible first | exact HB.out | apply below_alloc | apply pw_below_drewN | apply below_drew1) | exact HB.out))) : w.heap.size ≤ gb115)); clear HB; have HB := n0_; have BK115 := n1_; have GW115 := n2_; have GE115 := n3_; clear n0_ n1_ n2_ n3_; clear hb hbox hg))
 repeat (go_quiet (first | ((with_reducible refine gate_dst (N := 4) rfl ?_); refine box_event ?hg (N := 4) ?hd (cs := #[.int .i64 0, .int .i64 0, .int .i64 0, .int .i64 0]) (t := 71) ?hr ?_; (case hd => rfl); (case hg => rfl); (case hr => first | (go_simp; done) | (go_simp; rfl)); intro gb115 hg w4 hbox hb; have n0_ := Aside0.mk (below_step (by repeat (first | (with_reducible first | exact HB.out | apply below_alloc | apply pw_below_drewN | apply below_drew1) | exact HB.out)) hb); have n1_ := Aside0.mk (hbox); have n2_ := Aside0.mk ((by rw [hg]; exact (below_size (by repeat (first | (with_reducible first | exact HB.out | apply below_alloc | apply pw_below_drewN | apply below_drew1) | exact HB.out))) : w.heap.size ≤ gb115)); have n3_ := Aside0.mk ((by rw [hg]; exact (below_size (by repeat (first | (with_reducible first | exact HB.out | apply below_alloc | apply pw_below_drewN | apply below_drew1) | exact HB.out))) : w.heap.size ≤ gb115)); clear HB; have HB := n0_; have BK115 := n1_; have GW115 := n2_; have GE115 := n3_; clear n0_ n1_ n2_ n3_; clear hb hbox hg)); go_upto_block 0 with (first | ((with_reducible refine gate_dst (N := 4) rfl ?_); refine box_event ?hg (N := 4) ?hd (cs := #[.int .i64 0, .int .i64 0, .int .i64 0, .int .i64 0]) (t := 71) ?hr ?_; (case hd => rfl); (case hg => rfl); (case hr => first | (go_simp; done) | (go_simp; rfl)); intro gb115 hg w4 hbox hb; have n0_ := Aside0.mk (below_step (by repeat (first | (with_reducible first | exact HB.out | apply below_alloc | apply pw_below_drewN | apply below_drew1) | exact HB.out)) hb); have n1_ := Aside0.mk (hbox); have n2_ := Aside0.mk ((by rw [hg]; exact (below_size (by repeat (first | (with_reducible first | exact HB.out | apply below_alloc | apply pw_below_drewN | apply below_drew1) | exact HB.out))) : w.heap.size ≤ gb115)); have n3_ := Aside0.mk ((by rw [hg]; exact (below_size (by repeat (first | (with_reducible first | exact HB.out | apply below_alloc | apply pw_below_drewN | apply below_drew1) | exact HB.out))) : w.heap.size ≤ gb115)); clear HB; have HB := n0_; have BK115 := n1_; have GW115 := n2_; have GE115 := n3_; clear n0_ n1_ n2_ n3_; clear hb hbox hg)))
 (try simp only [Act.put, List.setIfInBounds_toArray, List.set_cons_zero, List.set_cons_succ])
 go_cut [5] (fun v5 wc => ∃ (kq : Nat) (x5_2 : Int), v5 = .int .i64 x5_2 ∧ Aside0 (fly_Point.j1 kq l0 a1 x5_2 = some (r1, r2, r3, r4)) ∧ Aside0 (kq ≤ k) ∧ Aside0 (wc.heap[gb115]? = some (.cells #[.int .i64 0, .int .i64 0, .int .i64 0, .int .i64 0] 71 (0, 0))) ∧ Aside0 (Below w.heap.size w wc))
 case first =>
  have H := HC3.out
  clear HC3
  have H' := Aside0.mk H
  clear H
  go_wp2
  repeat (go_quiet (fail); try go_wp2)
  go_loopg [5] k (fun kq v5 w' => ∃ (x5_1 : Int), v5 = .int .i64 x5_1 ∧ Aside0 (fly_Point.l0 kq l0 a1 x5_1 = some (r1, r2, r3, r4)) ∧ Aside0 (kq ≤ k) ∧ Aside0 (w'.heap[gb115]? = some (.cells #[.int .i64 0, .int .i64 0, .int .i64 0, .int .i64 0] 71 (0, 0))) ∧ Aside0 (Below w.heap.size w w'))
  case atStart => exact ⟨(0), (by first | rfl | (simp; done) | (simp [*]; done)), H', ⟨Nat.le_refl _⟩, ⟨by (with_reducible repeat (first | refine blk_drewN ?_ _ | refine blk_drew ?_ | refine blk_alloc ?_ _)); exact BK115.out⟩, ⟨by repeat (first | (with_reducible first | exact HB.out | apply below_alloc | apply pw_below_drewN | apply below_drew1 | refine below_set ?_ GE115.out) | exact HB.out)⟩⟩
  case round =>
   clear H'
   (try clear p2)
   obtain ⟨x5_1, rfl, HA, HK1, BK115, HB⟩ := hrel
   cases gk with
   | zero => exact absurd HA.out (by simp [fly_Point.l0])
   | succ k1 =>
    have H := HA.out
    clear HA
    simp only [fly_Point.l0] at H
    refine Or.elim (Classical.em ((wrap64 (x5_1 + 1)) < (l0.length : Int))) (fun c5 => ?p2_) (fun c5 => ?n2_)
    case' p2_ =>
     rw [if_pos c5] at H
     have c5b0 : decide ((wrap64 (x5_1 + 1)) < (l0.length : Int)) = true := decide_eq_true c5
     clear c5
     (first | rw [c5b0] | (simp only [i64_w, i32_w]; rw [c5b0]) | skip)
     obtain ⟨ji6, hji6⟩ : ∃ j_ : Int, (wrap64 (x5_1 + 1)) = j_ := ⟨_, rfl⟩
     replace H : (if 0 ≤ (ji6) then (if ((rd_T71 l0 (ji6)).f0) ≤ a1 then (fly_Point.l0 k1 l0 a1 ji6) else (fly_Point.j1 k1 l0 a1 x5_1)) else (none)) = some (r1, r2, r3, r4) := by first | (rw [hji6] at H; exact H) | (simp only [hji6] at H ⊢; exact H)
     (try rw [hji6] at c5b0)
     have hji6w : (IntKind.i64.wrap (x5_1 + 1)) = ji6 := (i64_w _).trans hji6
     refine Or.elim (Classical.em (0 ≤ (ji6))) (fun c7 => ?p3_) (fun c7 => ?n3_)
     case' p3_ =>
      rw [if_pos c7] at H
      have c7b0 : decide (0 ≤ (ji6)) = true := decide_eq_true c7
      clear c7
      refine Or.elim (Classical.em (((rd_T71 l0 (ji6)).f0) ≤ a1)) (fun c8 => ?p4_) (fun c8 => ?n4_)
      case' p4_ =>
       rw [if_pos c8] at H
       have c8b0 : decide (((rd_T71 l0 (ji6)).f0) ≤ a1) = true := decide_eq_true c8
       clear c8
       have hm1_0 := Aside0.mk trivial
      case' n4_ =>
       rw [if_neg c8] at H
       have c8b0 : decide (((rd_T71 l0 (ji6)).f0) ≤ a1) = false := decide_eq_false c8
       clear c8
       have hm1_1 := Aside0.mk trivial
     case' n3_ =>
      rw [if_neg c7] at H
      exact absurd H (by simp)
    case' n2_ =>
     rw [if_neg c5] at H
     have c5b0 : decide ((wrap64 (x5_1 + 1)) < (l0.length : Int)) = false := decide_eq_false c5
     clear c5
     (first | rw [c5b0] | (simp only [i64_w, i32_w]; rw [c5b0]) | skip)
     have hm1_2 := Aside0.mk trivial
    all_goals
     have H' := Aside0.mk H
     clear H
     first
      | (first | (have _hm := hm1_0) | (have _hm := hm1_1))
        have p116 : 0 ≤ ((ji6) : Int) := of_decide_eq_true (by first | (with_reducible assumption) | assumption)
        have q116 : (ji6) < (l0.length : Int) := of_decide_eq_true (by first | (with_reducible assumption) | assumption)
        obtain ⟨ad116, e116, hx116_0, hx116_1, hx116_2, hx116_3⟩ := at_T71 HR0.out (ji6) p116 q116
        cases e116
        replace hx116_0 := (HB.out.cell (World.block_lt_of_cell? w _ hx116_0)).trans hx116_0
        replace hx116_1 := (HB.out.cell (World.block_lt_of_cell? w _ hx116_1)).trans hx116_1
        replace hx116_2 := (HB.out.cell (World.block_lt_of_cell? w _ hx116_2)).trans hx116_2
        replace hx116_3 := (HB.out.cell (World.block_lt_of_cell? w _ hx116_3)).trans hx116_3
        replace p116 := eq_true p116
        replace q116 := eq_true q116
        go_wp2
        repeat (go_quiet (fail); try go_wp2)
        first
         | clear hm1_0
           first | go_roundg k1 | (subst hji6; go_roundg k1)
           case measure => have := HK1.out; omega
           case rel => exact ⟨(ji6), (by first | rfl | (simp; done) | (simp only [← hji6] <;> (first | rfl | (simp; done))) | (simp [*]; done) | (refine congrArg Value.bool ?_; rw [Bool.eq_iff_iff]; simp only [beq_iff_eq, decide_eq_true_eq, List.length_take]; omega)), H', ⟨by have := HK1.out; omega⟩, ⟨by (with_reducible repeat (first | refine blk_drewN ?_ _ | refine blk_drew ?_ | refine blk_alloc ?_ _)); exact BK115.out⟩, ⟨by repeat (first | (with_reducible first | exact HB.out | apply below_alloc | apply pw_below_drewN | apply below_drew1 | refine below_set ?_ GE115.out) | exact HB.out)⟩⟩
         | clear hm1_1
           go_meet
           case rel => exact ⟨_, (x5_1), (by first | rfl | (simp; done) | (simp [*]; done)), H', ⟨by have := HK1.out; first | omega | exact Nat.le_refl _⟩, ⟨by (with_reducible repeat (first | refine blk_drewN ?_ _ | refine blk_drew ?_ | refine blk_alloc ?_ _)); exact BK115.out⟩, ⟨by repeat (first | (with_reducible first | exact HB.out | apply below_alloc | apply pw_below_drewN | apply below_drew1 | refine below_set ?_ GE115.out) | exact HB.out)⟩⟩
      | clear hm1_2
        go_wp2
        repeat (go_quiet (fail); try go_wp2)
        go_meet
        case rel => exact ⟨_, (x5_1), (by first | rfl | (simp; done) | (simp [*]; done)), H', ⟨by have := HK1.out; first | omega | exact Nat.le_refl _⟩, ⟨by (with_reducible repeat (first | refine blk_drewN ?_ _ | refine blk_drew ?_ | refine blk_alloc ?_ _)); exact BK115.out⟩, ⟨by repeat (first | (with_reducible first | exact HB.out | apply below_alloc | apply pw_below_drewN | apply below_drew1 | refine below_set ?_ GE115.out) | exact HB.out)⟩⟩
 case rest =>
  clear HC3
  (try clear p1); (try clear q1); (try clear hx1); (try clear p2); (try clear c5); (try clear c5b0); (try clear p6); (try clear c7); (try clear c7b0); (try clear c8); (try clear c8b0); (try clear hx116_0); (try clear hx116_1); (try clear hx116_2); (try clear hx116_3); (try clear p116); (try clear p2); (try clear q116)
  obtain ⟨kq, x5_2, rfl, HA, HJ2, BK115, HB⟩ := hcut
  cases kq with
  | zero => exact absurd HA.out (by simp [fly_Point.j1])
  | succ kj2 =>
   have H := HA.out
   clear HA
   simp only [fly_Point.j1] at H
   by_cases c9 : 0 ≤ x5_2
   · rw [if_pos c9] at H
     have c9b0 : decide (0 ≤ x5_2) = true := decide_eq_true c9
     clear c9
     by_cases c10 : x5_2 < (l0.length : Int)
     · rw [if_pos c10] at H
       have c10b0 : decide (x5_2 < (l0.length : Int)) = true := decide_eq_true c10
       clear c10
       have HC11 := Aside0.mk H
       clear H
       have p117 : 0 ≤ (x5_2 : Int) := of_decide_eq_true (by first | (with_reducible assumption) | assumption)
       have q117 : x5_2 < (l0.length : Int) := of_decide_eq_true (by first | (with_reducible assumption) | assumption)
       obtain ⟨ad117, e117, hx117_0, hx117_1, hx117_2, hx117_3⟩ := at_T71 HR0.out x5_2 p117 q117
       cases e117
       replace hx117_0 := (HB.out.cell (World.block_lt_of_cell? w _ hx117_0)).trans hx117_0
       replace hx117_1 := (HB.out.cell (World.block_lt_of_cell? w _ hx117_1)).trans hx117_1
       replace hx117_2 := (HB.out.cell (World.block_lt_of_cell? w _ hx117_2)).trans hx117_2
       replace hx117_3 := (HB.out.cell (World.block_lt_of_cell? w _ hx117_3)).trans hx117_3
       replace p117 := eq_true p117
       replace q117 := eq_true q117
       go_upto_region 5 with (first | ((with_reducible refine gate_dst (N := 6) rfl ?_); refine box_event ?hg (N := 6) ?hd (cs := #[.int .i64 0, .int .i64 0, .int .i64 0, .int .i64 0]) (t := 71) ?hr ?_; (case hd => rfl); (case hg => rfl); (case hr => first | (go_simp; done) | (go_simp; rfl)); intro gb118 hg wx47371 hbox hb; have n0_ := Aside0.mk (blk_below (g := gb115) (o := .cells #[.int .i64 0, .int .i64 0, .int .i64 0, .int .i64 0] 71 (0, 0)) (by (with_reducible repeat (first | refine blk_drewN ?_ _ | refine blk_drew ?_ | refine blk_alloc ?_ _)); exact BK115.out) hb); have n1_ := Aside0.mk (below_step (by repeat (first | (with_reducible first | exact HB.out | apply below_alloc | apply pw_below_drewN | apply below_drew1 | refine below_set ?_ GE115.out) | exact HB.out)) hb); have n2_ := Aside0.mk (hbox); have n3_ := Aside0.mk ((by rw [hg]; exact (below_size (by repeat (first | (with_reducible first | exact HB.out | apply below_alloc | apply pw_below_drewN | apply below_drew1 | refine below_set ?_ GE115.out) | exact HB.out))) : w.heap.size ≤ gb118)); have n4_ := Aside0.mk ((by rw [hg]; exact (below_size (by repeat (first | (with_reducible first | exact HB.out | apply below_alloc | apply pw_below_drewN | apply below_drew1 | refine below_set ?_ GE115.out) | exact HB.out))) : w.heap.size ≤ gb118)); have n5_ := Aside0.mk ((by rw [hg]; exact Nat.ne_of_lt (blk_lt (g := gb115) (o := .cells #[.int .i64 0, .int .i64 0, .int .i64 0, .int .i64 0] 71 (0, 0)) (by (with_reducible repeat (first | refine blk_drewN ?_ _ | refine blk_drew ?_ | refine blk_alloc ?_ _)); exact BK115.out)) : gb115 ≠ gb118)); have n6_ := Aside0.mk ((by rw [hg]; exact Nat.ne_of_gt (blk_lt (g := gb115) (o := .cells #[.int .i64 0, .int .i64 0, .int .i64 0, .int .i64 0] 71 (0, 0)) (by (with_reducible repeat (first | refine blk_drewN ?_ _ | refine blk_drew ?_ | refine blk_alloc ?_ _)); exact BK115.out)) : gb118 ≠ gb115)); clear BK115; clear HB; have BK115 := n0_; have HB := n1_; have BK118 := n2_; have GW118 := n3_; have GE118 := n4_; have NB115_118 := n5_; have NB118_115 := n6_; clear n0_ n1_ n2_ n3_ n4_ n5_ n6_; clear hb hbox hg; have hnbx47371 := NB118_115.out; have hncx47371 := NB115_118.out; have hczx47371 : wx47371.cell? ⟨gb118, 0, none⟩ = some (.int .i64 0) := (blk_cell BK118.out 0).trans rfl; have hczx47372 : wx47371.cell? ⟨gb118, 1, none⟩ = some (.int .i64 0) := (blk_cell BK118.out 1).trans rfl; have hczx47373 : wx47371.cell? ⟨gb118, 2, none⟩ = some (.int .i64 0) := (blk_cell BK118.out 2).trans rfl; have hczx47374 : wx47371.cell? ⟨gb118, 3, none⟩ = some (.int .i64 0) := (blk_cell BK118.out 3).trans rfl; have hfzx47371 := blk_frozen BK118.out 0; have hfzx47372 := blk_frozen BK118.out 1; have hfzx47373 := blk_frozen BK118.out 2; have hfzx47374 := blk_frozen BK118.out 3))
       repeat (go_quiet (first | ((with_reducible refine gate_dst (N := 6) rfl ?_); refine box_event ?hg (N := 6) ?hd (cs := #[.int .i64 0, .int .i64 0, .int .i64 0, .int .i64 0]) (t := 71) ?hr ?_; (case hd => rfl); (case hg => rfl); (case hr => first | (go_simp; done) | (go_simp; rfl)); intro gb118 hg wx47371 hbox hb; have n0_ := Aside0.mk (blk_below (g := gb115) (o := .cells #[.int .i64 0, .int .i64 0, .int .i64 0, .int .i64 0] 71 (0, 0)) (by (with_reducible repeat (first | refine blk_drewN ?_ _ | refine blk_drew ?_ | refine blk_alloc ?_ _)); exact BK115.out) hb); have n1_ := Aside0.mk (below_step (by repeat (first | (with_reducible first | exact HB.out | apply below_alloc | apply pw_below_drewN | apply below_drew1 | refine below_set ?_ GE115.out) | exact HB.out)) hb); have n2_ := Aside0.mk (hbox); have n3_ := Aside0.mk ((by rw [hg]; exact (below_size (by repeat (first | (with_reducible first | exact HB.out | apply below_alloc | apply pw_below_drewN | apply below_drew1 | refine below_set ?_ GE115.out) | exact HB.out))) : w.heap.size ≤ gb118)); have n4_ := Aside0.mk ((by rw [hg]; exact (below_size (by repeat (first | (with_reducible first | exact HB.out | apply below_alloc | apply pw_below_drewN | apply below_drew1 | refine below_set ?_ GE115.out) | exact HB.out))) : w.heap.size ≤ gb118)); have n5_ := Aside0.mk ((by rw [hg]; exact Nat.ne_of_lt (blk_lt (g := gb115) (o := .cells #[.int .i64 0, .int .i64 0, .int .i64 0, .int .i64 0] 71 (0, 0)) (by (with_reducible repeat (first | refine blk_drewN ?_ _ | refine blk_drew ?_ | refine blk_alloc ?_ _)); exact BK115.out)) : gb115 ≠ gb118)); have n6_ := Aside0.mk ((by rw [hg]; exact Nat.ne_of_gt (blk_lt (g := gb115) (o := .cells #[.int .i64 0, .int .i64 0, .int .i64 0, .int .i64 0] 71 (0, 0)) (by (with_reducible repeat (first | refine blk_drewN ?_ _ | refine blk_drew ?_ | refine blk_alloc ?_ _)); exact BK115.out)) : gb118 ≠ gb115)); clear BK115; clear HB; have BK115 := n0_; have HB := n1_; have BK118 := n2_; have GW118 := n3_; have GE118 := n4_; have NB115_118 := n5_; have NB118_115 := n6_; clear n0_ n1_ n2_ n3_ n4_ n5_ n6_; clear hb hbox hg; have hnbx47371 := NB118_115.out; have hncx47371 := NB115_118.out; have hczx47371 : wx47371.cell? ⟨gb118, 0, none⟩ = some (.int .i64 0) := (blk_cell BK118.out 0).trans rfl; have hczx47372 : wx47371.cell? ⟨gb118, 1, none⟩ = some (.int .i64 0) := (blk_cell BK118.out 1).trans rfl; have hczx47373 : wx47371.cell? ⟨gb118, 2, none⟩ = some (.int .i64 0) := (blk_cell BK118.out 2).trans rfl; have hczx47374 : wx47371.cell? ⟨gb118, 3, none⟩ = some (.int .i64 0) := (blk_cell BK118.out 3).trans rfl; have hfzx47371 := blk_frozen BK118.out 0; have hfzx47372 := blk_frozen BK118.out 1; have hfzx47373 := blk_frozen BK118.out 2; have hfzx47374 := blk_frozen BK118.out 3)); go_upto_region 5 with (first | ((with_reducible refine gate_dst (N := 6) rfl ?_); refine box_event ?hg (N := 6) ?hd (cs := #[.int .i64 0, .int .i64 0, .int .i64 0, .int .i64 0]) (t := 71) ?hr ?_; (case hd => rfl); (case hg => rfl); (case hr => first | (go_simp; done) | (go_simp; rfl)); intro gb118 hg wx47371 hbox hb; have n0_ := Aside0.mk (blk_below (g := gb115) (o := .cells #[.int .i64 0, .int .i64 0, .int .i64 0, .int .i64 0] 71 (0, 0)) (by (with_reducible repeat (first | refine blk_drewN ?_ _ | refine blk_drew ?_ | refine blk_alloc ?_ _)); exact BK115.out) hb); have n1_ := Aside0.mk (below_step (by repeat (first | (with_reducible first | exact HB.out | apply below_alloc | apply pw_below_drewN | apply below_drew1 | refine below_set ?_ GE115.out) | exact HB.out)) hb); have n2_ := Aside0.mk (hbox); have n3_ := Aside0.mk ((by rw [hg]; exact (below_size (by repeat (first | (with_reducible first | exact HB.out | apply below_alloc | apply pw_below_drewN | apply below_drew1 | refine below_set ?_ GE115.out) | exact HB.out))) : w.heap.size ≤ gb118)); have n4_ := Aside0.mk ((by rw [hg]; exact (below_size (by repeat (first | (with_reducible first | exact HB.out | apply below_alloc | apply pw_below_drewN | apply below_drew1 | refine below_set ?_ GE115.out) | exact HB.out))) : w.heap.size ≤ gb118)); have n5_ := Aside0.mk ((by rw [hg]; exact Nat.ne_of_lt (blk_lt (g := gb115) (o := .cells #[.int .i64 0, .int .i64 0, .int .i64 0, .int .i64 0] 71 (0, 0)) (by (with_reducible repeat (first | refine blk_drewN ?_ _ | refine blk_drew ?_ | refine blk_alloc ?_ _)); exact BK115.out)) : gb115 ≠ gb118)); have n6_ := Aside0.mk ((by rw [hg]; exact Nat.ne_of_gt (blk_lt (g := gb115) (o := .cells #[.int .i64 0, .int .i64 0, .int .i64 0, .int .i64 0] 71 (0, 0)) (by (with_reducible repeat (first | refine blk_drewN ?_ _ | refine blk_drew ?_ | refine blk_alloc ?_ _)); exact BK115.out)) : gb118 ≠ gb115)); clear BK115; clear HB; have BK115 := n0_; have HB := n1_; have BK118 := n2_; have GW118 := n3_; have GE118 := n4_; have NB115_118 := n5_; have NB118_115 := n6_; clear n0_ n1_ n2_ n3_ n4_ n5_ n6_; clear hb hbox hg; have hnbx47371 := NB118_115.out; have hncx47371 := NB115_118.out; have hczx47371 : wx47371.cell? ⟨gb118, 0, none⟩ = some (.int .i64 0) := (blk_cell BK118.out 0).trans rfl; have hczx47372 : wx47371.cell? ⟨gb118, 1, none⟩ = some (.int .i64 0) := (blk_cell BK118.out 1).trans rfl; have hczx47373 : wx47371.cell? ⟨gb118, 2, none⟩ = some (.int .i64 0) := (blk_cell BK118.out 2).trans rfl; have hczx47374 : wx47371.cell? ⟨gb118, 3, none⟩ = some (.int .i64 0) := (blk_cell BK118.out 3).trans rfl; have hfzx47371 := blk_frozen BK118.out 0; have hfzx47372 := blk_frozen BK118.out 1; have hfzx47373 := blk_frozen BK118.out 2; have hfzx47374 := blk_frozen BK118.out 3)))
       (try simp only [Act.put, List.setIfInBounds_toArray, List.set_cons_zero, List.set_cons_succ])
       go_cut [45] (fun v45 wc => ∃ (kq : Nat) (x45_10 : Bool), v45 = .bool x45_10 ∧ Aside0 (fly_Point.j2 kq l0 a1 x5_2 x45_10 ((rd_T71 l0 x5_2).f0) ((rd_T71 l0 x5_2).f1.f0) ((rd_T71 l0 x5_2).f1.f1) ((rd_T71 l0 x5_2).f2) = some (r1, r2, r3, r4)) ∧ Aside0 (kq ≤ kj2) ∧ Aside0 (wc.heap[gb115]? = some (.cells #[.int .i64 0, .int .i64 0, .int .i64 0, .int .i64 0] 71 (0, 0))) ∧ Aside0 (wc.heap[gb118]? = some (.cells #[.int .i64 ((rd_T71 l0 x5_2).f0), .int .i64 ((rd_T71 l0 x5_2).f1.f0), .int .i64 ((rd_T71 l0 x5_2).f1.f1), .int .i64 ((rd_T71 l0 x5_2).f2)] 71 (0, 0))) ∧ Aside0 (Below w.heap.size w wc))
       case first =>
        have H := HC11.out
        clear HC11
        refine Or.elim (Classical.em (((rd_T71 l0 x5_2).f0) = a1)) (fun c15 => ?p6_) (fun c15 => ?n6_)
        case' p6_ =>
         rw [if_pos c15] at H
         have c15b0 : (((rd_T71 l0 x5_2).f0) == a1) = true := beq_iff_eq.mpr c15
         have c15b1 : (((rd_T71 l0 x5_2).f0) != a1) = false := bne_eq_false_iff_eq.mpr c15
         clear c15
         (first | rw [c15b0] | (simp only [i64_w, i32_w]; rw [c15b0]) | skip)
        case' n6_ =>
         rw [if_neg c15] at H
         have c15b0 : (((rd_T71 l0 x5_2).f0) == a1) = false := beq_eq_false_iff_ne.mpr c15
         have c15b1 : (((rd_T71 l0 x5_2).f0) != a1) = true := bne_iff_ne.mpr c15
         (first | rw [c15b0] | (simp only [i64_w, i32_w]; rw [c15b0]) | skip)
        all_goals
         have H' := Aside0.mk H
         clear H
         have hnbzd1 := NB118_115.out
         have hnczd1 := NB115_118.out
         have hczzd1 : wx47371.cell? ⟨gb118, 0, none⟩ = some (.int .i64 0) := (blk_cell BK118.out 0).trans rfl
         have hczzd2 : wx47371.cell? ⟨gb118, 1, none⟩ = some (.int .i64 0) := (blk_cell BK118.out 1).trans rfl
         have hczzd3 : wx47371.cell? ⟨gb118, 2, none⟩ = some (.int .i64 0) := (blk_cell BK118.out 2).trans rfl
         have hczzd4 : wx47371.cell? ⟨gb118, 3, none⟩ = some (.int .i64 0) := (blk_cell BK118.out 3).trans rfl
         have hfzzd1 := blk_frozen BK118.out 0
         have hfzzd2 := blk_frozen BK118.out 1
         have hfzzd3 := blk_frozen BK118.out 2
         have hfzzd4 := blk_frozen BK118.out 3
         go_wp2
         repeat (go_quiet (fail); try go_wp2)
         go_meet
         case rel => first | (exact ⟨_, (true), (by first | rfl | (simp; done) | (simp [*]; done)), H', ⟨by have := HJ2.out; first | omega | exact Nat.le_refl _⟩, ⟨by (with_reducible repeat (first | refine blk_drewN ?_ _ | refine blk_drew ?_ | refine blk_alloc ?_ _)); refine blk_far ?_ NB115_118.out _; (with_reducible repeat (first | refine blk_drewN ?_ _ | refine blk_drew ?_ | refine blk_alloc ?_ _)); refine blk_far ?_ NB115_118.out _; (with_reducible repeat (first | refine blk_drewN ?_ _ | refine blk_drew ?_ | refine blk_alloc ?_ _)); refine blk_far ?_ NB115_118.out _; (with_reducible repeat (first | refine blk_drewN ?_ _ | refine blk_drew ?_ | refine blk_alloc ?_ _)); refine blk_far ?_ NB115_118.out _; (with_reducible repeat (first | refine blk_drewN ?_ _ | refine blk_drew ?_ | refine blk_alloc ?_ _)); exact BK115.out⟩, ⟨by (with_reducible repeat (first | refine blk_drewN ?_ _ | refine blk_drew ?_ | refine blk_alloc ?_ _)); refine blk_put (cs := #[.int .i64 ((rd_T71 l0 x5_2).f0), .int .i64 ((rd_T71 l0 x5_2).f1.f0), .int .i64 ((rd_T71 l0 x5_2).f1.f1), .int .i64 0]) ?_ 3 _ rfl; (with_reducible repeat (first | refine blk_drewN ?_ _ | refine blk_drew ?_ | refine blk_alloc ?_ _)); refine blk_put (cs := #[.int .i64 ((rd_T71 l0 x5_2).f0), .int .i64 ((rd_T71 l0 x5_2).f1.f0), .int .i64 0, .int .i64 0]) ?_ 2 _ rfl; (with_reducible repeat (first | refine blk_drewN ?_ _ | refine blk_drew ?_ | refine blk_alloc ?_ _)); refine blk_put (cs := #[.int .i64 ((rd_T71 l0 x5_2).f0), .int .i64 0, .int .i64 0, .int .i64 0]) ?_ 1 _ rfl; (with_reducible repeat (first | refine blk_drewN ?_ _ | refine blk_drew ?_ | refine blk_alloc ?_ _)); refine blk_put (cs := #[.int .i64 0, .int .i64 0, .int .i64 0, .int .i64 0]) ?_ 0 _ rfl; (with_reducible repeat (first | refine blk_drewN ?_ _ | refine blk_drew ?_ | refine blk_alloc ?_ _)); exact BK118.out⟩, ⟨by repeat (first | (with_reducible first | exact HB.out | apply below_alloc | apply pw_below_drewN | apply below_drew1 | refine below_set ?_ GE115.out | refine below_set ?_ GE118.out) | exact HB.out)⟩⟩) | (exact ⟨_, (((wrap64 (x5_2 + 1)) == (l0.length : Int))), (by first | rfl | (simp; done) | (simp [*]; done)), H', ⟨by have := HJ2.out; first | omega | exact Nat.le_refl _⟩, ⟨by (with_reducible repeat (first | refine blk_drewN ?_ _ | refine blk_drew ?_ | refine blk_alloc ?_ _)); refine blk_far ?_ NB115_118.out _; (with_reducible repeat (first | refine blk_drewN ?_ _ | refine blk_drew ?_ | refine blk_alloc ?_ _)); refine blk_far ?_ NB115_118.out _; (with_reducible repeat (first | refine blk_drewN ?_ _ | refine blk_drew ?_ | refine blk_alloc ?_ _)); refine blk_far ?_ NB115_118.out _; (with_reducible repeat (first | refine blk_drewN ?_ _ | refine blk_drew ?_ | refine blk_alloc ?_ _)); refine blk_far ?_ NB115_118.out _; (with_reducible repeat (first | refine blk_drewN ?_ _ | refine blk_drew ?_ | refine blk_alloc ?_ _)); exact BK115.out⟩, ⟨by (with_reducible repeat (first | refine blk_drewN ?_ _ | refine blk_drew ?_ | refine blk_alloc ?_ _)); refine blk_put (cs := #[.int .i64 ((rd_T71 l0 x5_2).f0), .int .i64 ((rd_T71 l0 x5_2).f1.f0), .int .i64 ((rd_T71 l0 x5_2).f1.f1), .int .i64 0]) ?_ 3 _ rfl; (with_reducible repeat (first | refine blk_drewN ?_ _ | refine blk_drew ?_ | refine blk_alloc ?_ _)); refine blk_put (cs := #[.int .i64 ((rd_T71 l0 x5_2).f0), .int .i64 ((rd_T71 l0 x5_2).f1.f0), .int .i64 0, .int .i64 0]) ?_ 2 _ rfl; (with_reducible repeat (first | refine blk_drewN ?_ _ | refine blk_drew ?_ | refine blk_alloc ?_ _)); refine blk_put (cs := #[.int .i64 ((rd_T71 l0 x5_2).f0), .int .i64 0, .int .i64 0, .int .i64 0]) ?_ 1 _ rfl; (with_reducible repeat (first | refine blk_drewN ?_ _ | refine blk_drew ?_ | refine blk_alloc ?_ _)); refine blk_put (cs := #[.int .i64 0, .int .i64 0, .int .i64 0, .int .i64 0]) ?_ 0 _ rfl; (with_reducible repeat (first | refine blk_drewN ?_ _ | refine blk_drew ?_ | refine blk_alloc ?_ _)); exact BK118.out⟩, ⟨by repeat (first | (with_reducible first | exact HB.out | apply below_alloc | apply pw_below_drewN | apply below_drew1 | refine below_set ?_ GE115.out | refine below_set ?_ GE118.out) | exact HB.out)⟩⟩)
       case rest =>
        clear HC11
        (try clear c1); (try clear p1); (try clear q1); (try clear hx1); (try clear p2); (try clear c5); (try clear c5b0); (try clear p6); (try clear c7); (try clear c7b0); (try clear c8); (try clear c8b0); (try clear c9); (try clear c9b0); (try clear c10); (try clear c10b0); (try clear p11); (try clear q11); (try clear hx11); (try clear c13); (try clear c15); (try clear c15b0); (try clear c15b1); (try clear c16); (try clear c18); (try clear hczx47371); (try clear hczx47372); (try clear hczx47373); (try clear hczx47374); (try clear hczzc1); (try clear hczzc2); (try clear hczzc3); (try clear hczzc4); (try clear hczzc5); (try clear hczzc6); (try clear hczzc7); (try clear hczzc8); (try clear hfzx47371); (try clear hfzx47372); (try clear hfzx47373)
        (try clear hfzx47374); (try clear hfzzc1); (try clear hfzzc2); (try clear hfzzc3); (try clear hfzzc4); (try clear hfzzc5); (try clear hfzzc6); (try clear hfzzc7); (try clear hfzzc8); (try clear hx116_0); (try clear hx116_1); (try clear hx116_2); (try clear hx116_3); (try clear hx117_0); (try clear hx117_1); (try clear hx117_2); (try clear hx117_3); (try clear p1); (try clear p116); (try clear p117); (try clear p2); (try clear p6); (try clear q1); (try clear q116); (try clear q117)
        obtain ⟨kq, x45_10, rfl, HA, HJ10, BK115, BK118, HB⟩ := hcut
        cases kq with
        | zero => exact absurd HA.out (by simp [fly_Point.j2])
        | succ kj10 =>
         have H := HA.out
         clear HA
         simp only [fly_Point.j2] at H
         by_cases c20 : x45_10 = true
         · subst c20
           have H1 : (some (((rd_T71 l0 x5_2).f0), ((rd_T71 l0 x5_2).f1.f0), ((rd_T71 l0 x5_2).f1.f1), ((rd_T71 l0 x5_2).f2))) = some (r1, r2, r3, r4) := by rw [if_pos rfl] at H; exact H
           clear H
           have H := H1
           clear H1
           simp only [Option.some.injEq, Prod.mk.injEq] at H
           obtain ⟨rfl, rfl, rfl, rfl⟩ := H
           have hnbzc3 := NB118_115.out
           have hnczc3 := NB115_118.out
           have hczzc9 : wc.cell? ⟨gb118, 0, none⟩ = some (.int .i64 ((rd_T71 l0 x5_2).f0)) := (blk_cell BK118.out 0).trans rfl
           have hczzc10 : wc.cell? ⟨gb118, 1, none⟩ = some (.int .i64 ((rd_T71 l0 x5_2).f1.f0)) := (blk_cell BK118.out 1).trans rfl
           have hczzc11 : wc.cell? ⟨gb118, 2, none⟩ = some (.int .i64 ((rd_T71 l0 x5_2).f1.f1)) := (blk_cell BK118.out 2).trans rfl
           have hczzc12 : wc.cell? ⟨gb118, 3, none⟩ = some (.int .i64 ((rd_T71 l0 x5_2).f2)) := (blk_cell BK118.out 3).trans rfl
           have hfzzc9 := blk_frozen BK118.out 0
           have hfzzc10 := blk_frozen BK118.out 1
           have hfzzc11 := blk_frozen BK118.out 2
           have hfzzc12 := blk_frozen BK118.out 3
           have hczzc13 : wc.cell? ⟨gb115, 0, none⟩ = some (.int .i64 0) := (blk_cell BK115.out 0).trans rfl
           have hczzc14 : wc.cell? ⟨gb115, 1, none⟩ = some (.int .i64 0) := (blk_cell BK115.out 1).trans rfl
           have hczzc15 : wc.cell? ⟨gb115, 2, none⟩ = some (.int .i64 0) := (blk_cell BK115.out 2).trans rfl
           have hczzc16 : wc.cell? ⟨gb115, 3, none⟩ = some (.int .i64 0) := (blk_cell BK115.out 3).trans rfl
           have hfzzc13 := blk_frozen BK115.out 0
           have hfzzc14 := blk_frozen BK115.out 1
           have hfzzc15 := blk_frozen BK115.out 2
           have hfzzc16 := blk_frozen BK115.out 3
           go_wp2
           repeat (go_quiet (fail); try go_wp2)
           refine bodyPost_ret (results_cell_row rfl _ _ gb115 71 #[.int .i64 ((rd_T71 l0 x5_2).f0), .int .i64 ((rd_T71 l0 x5_2).f1.f0), .int .i64 ((rd_T71 l0 x5_2).f1.f1), .int .i64 ((rd_T71 l0 x5_2).f2)] (0, 0) _ rfl (by (with_reducible repeat (first | refine blk_drewN ?_ _ | refine blk_drew ?_ | refine blk_alloc ?_ _)); refine blk_put (cs := #[.int .i64 ((rd_T71 l0 x5_2).f0), .int .i64 ((rd_T71 l0 x5_2).f1.f0), .int .i64 ((rd_T71 l0 x5_2).f1.f1), .int .i64 0]) ?_ 3 _ rfl; (with_reducible repeat (first | refine blk_drewN ?_ _ | refine blk_drew ?_ | refine blk_alloc ?_ _)); refine blk_put (cs := #[.int .i64 ((rd_T71 l0 x5_2).f0), .int .i64 ((rd_T71 l0 x5_2).f1.f0), .int .i64 0, .int .i64 0]) ?_ 2 _ rfl; (with_reducible repeat (first | refine blk_drewN ?_ _ | refine blk_drew ?_ | refine blk_alloc ?_ _)); refine blk_put (cs := #[.int .i64 ((rd_T71 l0 x5_2).f0), .int .i64 0, .int .i64 0, .int .i64 0]) ?_ 1 _ rfl; (with_reducible repeat (first | refine blk_drewN ?_ _ | refine blk_drew ?_ | refine blk_alloc ?_ _)); refine blk_put (cs := #[.int .i64 0, .int .i64 0, .int .i64 0, .int .i64 0]) ?_ 0 _ rfl; (with_reducible repeat (first | refine blk_drewN ?_ _ | refine blk_drew ?_ | refine blk_alloc ?_ _)); exact BK115.out) Try.underlying71 rfl (by kernel_rfl)) rfl ?_
           exact ⟨by first | rfl | (simp [errW_none, errW_some] <;> rfl) | (simp [*, errW_none, errW_some] <;> rfl), by repeat (first | (with_reducible first | exact HB.out | apply below_alloc | apply pw_below_drewN | apply below_drew1 | refine below_set ?_ GE115.out | refine below_set ?_ GE118.out) | exact HB.out)⟩
         · replace c20 := Bool.eq_false_iff.mpr c20
           subst c20
           have H1 : (if 0 ≤ (wrap64 (x5_2 + 1)) then (if (wrap64 (x5_2 + 1)) < (l0.length : Int) then ((plane_Toward.f kj10 ((rd_T71 l0 x5_2).f1.f0) ((rd_T71 l0 x5_2).f1.f1) ((rd_T71 l0 (wrap64 (x5_2 + 1))).f1.f0) ((rd_T71 l0 (wrap64 (x5_2 + 1))).f1.f1) (wrap64 (a1 - ((rd_T71 l0 x5_2).f0))) (wrap64 (((rd_T71 l0 (wrap64 (x5_2 + 1))).f0) - ((rd_T71 l0 x5_2).f0)))).bind fun bt121 => ((num_DivDown.f kj10 (wrap64 ((wrap64 (((rd_T71 l0 (wrap64 (x5_2 + 1))).f2) - ((rd_T71 l0 x5_2).f2))) * (wrap64 (a1 - ((rd_T71 l0 x5_2).f0))))) (wrap64 (((rd_T71 l0 (wrap64 (x5_2 + 1))).f0) - ((rd_T71 l0 x5_2).f0)))).bind fun bt125 => (some (a1, bt121.1, bt121.2.1, wrap64 (((rd_T71 l0 x5_2).f2) + bt125.1))))) else (none)) else (none)) = some (r1, r2, r3, r4) := by rw [if_neg (show ¬ (false = true) by decide)] at H; exact H
           clear H
           have H := H1
           clear H1
           obtain ⟨ji24, hji24⟩ : ∃ j_ : Int, (wrap64 (x5_2 + 1)) = j_ := ⟨_, rfl⟩
           replace H : (if 0 ≤ (ji24) then (if (ji24) < (l0.length : Int) then ((plane_Toward.f kj10 ((rd_T71 l0 x5_2).f1.f0) ((rd_T71 l0 x5_2).f1.f1) ((rd_T71 l0 (ji24)).f1.f0) ((rd_T71 l0 (ji24)).f1.f1) (wrap64 (a1 - ((rd_T71 l0 x5_2).f0))) (wrap64 (((rd_T71 l0 (ji24)).f0) - ((rd_T71 l0 x5_2).f0)))).bind fun bt121 => ((num_DivDown.f kj10 (wrap64 ((wrap64 (((rd_T71 l0 (ji24)).f2) - ((rd_T71 l0 x5_2).f2))) * (wrap64 (a1 - ((rd_T71 l0 x5_2).f0))))) (wrap64 (((rd_T71 l0 (ji24)).f0) - ((rd_T71 l0 x5_2).f0)))).bind fun bt125 => (some (a1, bt121.1, bt121.2.1, wrap64 (((rd_T71 l0 x5_2).f2) + bt125.1))))) else (none)) else (none)) = some (r1, r2, r3, r4) := by first | (rw [hji24] at H; exact H) | (simp only [hji24] at H ⊢; exact H)
           have hji24w : (IntKind.i64.wrap (x5_2 + 1)) = ji24 := (i64_w _).trans hji24
           by_cases c25 : 0 ≤ (ji24)
           · rw [if_pos c25] at H
             have c25b0 : decide (0 ≤ (ji24)) = true := decide_eq_true c25
             clear c25
             by_cases c26 : (ji24) < (l0.length : Int)
             · rw [if_pos c26] at H
               have c26b0 : decide ((ji24) < (l0.length : Int)) = true := decide_eq_true c26
               clear c26
               replace H := Option.bind_eq_some_iff.mp H
               obtain ⟨⟨t121, t122, t123⟩, A270, H⟩ := H
               replace H : ((num_DivDown.f kj10 (wrap64 ((wrap64 (((rd_T71 l0 (ji24)).f2) - ((rd_T71 l0 x5_2).f2))) * (wrap64 (a1 - ((rd_T71 l0 x5_2).f0))))) (wrap64 (((rd_T71 l0 (ji24)).f0) - ((rd_T71 l0 x5_2).f0)))).bind fun bt125 => (some (a1, t121, t122, wrap64 (((rd_T71 l0 x5_2).f2) + bt125.1)))) = some (r1, r2, r3, r4) := H
               have A27 := Aside0.mk A270
               clear A270
               replace H := Option.bind_eq_some_iff.mp H
               obtain ⟨⟨t125, t126⟩, A280, H⟩ := H
               replace H : (some (a1, t121, t122, wrap64 (((rd_T71 l0 x5_2).f2) + t125))) = some (r1, r2, r3, r4) := H
               have A28 := Aside0.mk A280
               clear A280
               simp only [Option.some.injEq, Prod.mk.injEq] at H
               obtain ⟨rfl, rfl, rfl, rfl⟩ := H
               have p119 : 0 ≤ ((ji24) : Int) := of_decide_eq_true (by first | (with_reducible assumption) | assumption)
               have q119 : (ji24) < (l0.length : Int) := of_decide_eq_true (by first | (with_reducible assumption) | assumption)
               obtain ⟨ad119, e119, hx119_0, hx119_1, hx119_2, hx119_3⟩ := at_T71 HR0.out (ji24) p119 q119
               obtain rfl : ad117 = ad119 := (by injection e119)
               replace hx119_0 := (HB.out.cell (World.block_lt_of_cell? w _ hx119_0)).trans hx119_0
               replace hx119_1 := (HB.out.cell (World.block_lt_of_cell? w _ hx119_1)).trans hx119_1
               replace hx119_2 := (HB.out.cell (World.block_lt_of_cell? w _ hx119_2)).trans hx119_2
               replace hx119_3 := (HB.out.cell (World.block_lt_of_cell? w _ hx119_3)).trans hx119_3
               replace p119 := eq_true p119
               replace q119 := eq_true q119
               go_wp2_with (first | ((with_reducible refine gate_dst (N := 7) rfl ?_); refine box_event ?hg (N := 7) ?hd (cs := #[.int .i64 0, .int .i64 0, .int .i64 0, .int .i64 0]) (t := 71) ?hr ?_; (case hd => rfl); (case hg => rfl); (case hr => first | (go_simp; done) | (go_simp; rfl)); intro gb120 hg wx7c5f1 hbox hb; have n0_ := Aside0.mk (blk_below (g := gb115) (o := .cells #[.int .i64 0, .int .i64 0, .int .i64 0, .int .i64 0] 71 (0, 0)) (by (with_reducible repeat (first | refine blk_drewN ?_ _ | refine blk_drew ?_ | refine blk_alloc ?_ _)); exact BK115.out) hb); have n1_ := Aside0.mk (blk_below (g := gb118) (o := .cells #[.int .i64 ((rd_T71 l0 x5_2).f0), .int .i64 ((rd_T71 l0 x5_2).f1.f0), .int .i64 ((rd_T71 l0 x5_2).f1.f1), .int .i64 ((rd_T71 l0 x5_2).f2)] 71 (0, 0)) (by (with_reducible repeat (first | refine blk_drewN ?_ _ | refine blk_drew ?_ | refine blk_alloc ?_ _)); exact BK118.out) hb); have n2_ := Aside0.mk (below_step (by repeat (first | (with_reducible first | exact HB.out | apply below_alloc | apply pw_below_drewN | apply below_drew1 | refine below_set ?_ GE115.out | refine below_set ?_ GE118.out) | exact HB.out)) hb); have n3_ := Aside0.mk (hbox); have n4_ := Aside0.mk ((by rw [hg]; exact (below_size (by repeat (first | (with_reducible first | exact HB.out | apply below_alloc | apply pw_below_drewN | apply below_drew1 | refine below_set ?_ GE115.out | refine below_set ?_ GE118.out) | exact HB.out))) : w.heap.size ≤ gb120)); have n5_ := Aside0.mk ((by rw [hg]; exact (below_size (by repeat (first | (with_reducible first | exact HB.out | apply below_alloc | apply pw_below_drewN | apply below_drew1 | refine below_set ?_ GE115.out | refine below_set ?_ GE118.out) | exact HB.out))) : w.heap.size ≤ gb120)); have n6_ := Aside0.mk ((by rw [hg]; exact Nat.ne_of_lt (blk_lt (g := gb115) (o := .cells #[.int .i64 0, .int .i64 0, .int .i64 0, .int .i64 0] 71 (0, 0)) (by (with_reducible repeat (first | refine blk_drewN ?_ _ | refine blk_drew ?_ | refine blk_alloc ?_ _)); exact BK115.out)) : gb115 ≠ gb120)); have n7_ := Aside0.mk ((by rw [hg]; exact Nat.ne_of_gt (blk_lt (g := gb115) (o := .cells #[.int .i64 0, .int .i64 0, .int .i64 0, .int .i64 0] 71 (0, 0)) (by (with_reducible repeat (first | refine blk_drewN ?_ _ | refine blk_drew ?_ | refine blk_alloc ?_ _)); exact BK115.out)) : gb120 ≠ gb115)); have n8_ := Aside0.mk ((by rw [hg]; exact Nat.ne_of_lt (blk_lt (g := gb118) (o := .cells #[.int .i64 ((rd_T71 l0 x5_2).f0), .int .i64 ((rd_T71 l0 x5_2).f1.f0), .int .i64 ((rd_T71 l0 x5_2).f1.f1), .int .i64 ((rd_T71 l0 x5_2).f2)] 71 (0, 0)) (by (with_reducible repeat (first | refine blk_drewN ?_ _ | refine blk_drew ?_ | refine blk_alloc ?_ _)); exact BK118.out)) : gb118 ≠ gb120)); have n9_ := Aside0.mk ((by rw [hg]; exact Nat.ne_of_gt (blk_lt (g := gb118) (o := .cells #[.int .i64 ((rd_T71 l0 x5_2).f0), .int .i64 ((rd_T71 l0 x5_2).f1.f0), .int .i64 ((rd_T71 l0 x5_2).f1.f1), .int .i64 ((rd_T71 l0 x5_2).f2)] 71 (0, 0)) (by (with_reducible repeat (first | refine blk_drewN ?_ _ | refine blk_drew ?_ | refine blk_alloc ?_ _)); exact BK118.out)) : gb120 ≠ gb118)); clear BK115; clear BK118; clear HB; have BK115 := n0_; have BK118 := n1_; have HB := n2_; have BK120 := n3_; have GW120 := n4_; have GE120 := n5_; have NB115_120 := n6_; have NB120_115 := n7_; have NB118_120 := n8_; have NB120_118 := n9_; clear n0_ n1_ n2_ n3_ n4_ n5_ n6_ n7_ n8_ n9_; clear hb hbox hg; have hnbx7c5f1 := NB120_115.out; have hncx7c5f1 := NB115_120.out; have hnbx7c5f2 := NB120_118.out; have hncx7c5f2 := NB118_120.out; have hczx7c5f1 : wx7c5f1.cell? ⟨gb120, 0, none⟩ = some (.int .i64 0) := (blk_cell BK120.out 0).trans rfl; have hczx7c5f2 : wx7c5f1.cell? ⟨gb120, 1, none⟩ = some (.int .i64 0) := (blk_cell BK120.out 1).trans rfl; have hczx7c5f3 : wx7c5f1.cell? ⟨gb120, 2, none⟩ = some (.int .i64 0) := (blk_cell BK120.out 2).trans rfl; have hczx7c5f4 : wx7c5f1.cell? ⟨gb120, 3, none⟩ = some (.int .i64 0) := (blk_cell BK120.out 3).trans rfl; have hfzx7c5f1 := blk_frozen BK120.out 0; have hfzx7c5f2 := blk_frozen BK120.out 1; have hfzx7c5f3 := blk_frozen BK120.out 2; have hfzx7c5f4 := blk_frozen BK120.out 3; have hnbx7c5f3 := NB118_115.out; have hncx7c5f3 := NB115_118.out; have hczx7c5f5 : wx7c5f1.cell? ⟨gb118, 0, none⟩ = some (.int .i64 ((rd_T71 l0 x5_2).f0)) := (blk_cell BK118.out 0).trans rfl; have hczx7c5f6 : wx7c5f1.cell? ⟨gb118, 1, none⟩ = some (.int .i64 ((rd_T71 l0 x5_2).f1.f0)) := (blk_cell BK118.out 1).trans rfl; have hczx7c5f7 : wx7c5f1.cell? ⟨gb118, 2, none⟩ = some (.int .i64 ((rd_T71 l0 x5_2).f1.f1)) := (blk_cell BK118.out 2).trans rfl; have hczx7c5f8 : wx7c5f1.cell? ⟨gb118, 3, none⟩ = some (.int .i64 ((rd_T71 l0 x5_2).f2)) := (blk_cell BK118.out 3).trans rfl; have hfzx7c5f5 := blk_frozen BK118.out 0; have hfzx7c5f6 := blk_frozen BK118.out 1; have hfzx7c5f7 := blk_frozen BK118.out 2; have hfzx7c5f8 := blk_frozen BK118.out 3) | (go_at_call 110; (with_reducible refine (plane_Toward.calls kj10 ((rd_T71 l0 x5_2).f1.f0) ((rd_T71 l0 x5_2).f1.f1) ((rd_T71 l0 (ji24)).f1.f0) ((rd_T71 l0 (ji24)).f1.f1) (wrap64 (a1 - ((rd_T71 l0 x5_2).f0))) (wrap64 (((rd_T71 l0 (ji24)).f0) - ((rd_T71 l0 x5_2).f0))) t121 t122 t123 _ A27.out).mono ?_); rintro e wx097a1 ⟨rfl, hb⟩; have n0_ := Aside0.mk (blk_below (g := gb115) (o := .cells #[.int .i64 0, .int .i64 0, .int .i64 0, .int .i64 0] 71 (0, 0)) (by (with_reducible repeat (first | refine blk_drewN ?_ _ | refine blk_drew ?_ | refine blk_alloc ?_ _)); refine blk_far ?_ NB115_120.out _; (with_reducible repeat (first | refine blk_drewN ?_ _ | refine blk_drew ?_ | refine blk_alloc ?_ _)); refine blk_far ?_ NB115_120.out _; (with_reducible repeat (first | refine blk_drewN ?_ _ | refine blk_drew ?_ | refine blk_alloc ?_ _)); refine blk_far ?_ NB115_120.out _; (with_reducible repeat (first | refine blk_drewN ?_ _ | refine blk_drew ?_ | refine blk_alloc ?_ _)); refine blk_far ?_ NB115_120.out _; (with_reducible repeat (first | refine blk_drewN ?_ _ | refine blk_drew ?_ | refine blk_alloc ?_ _)); exact BK115.out) hb); have n1_ := Aside0.mk (blk_below (g := gb118) (o := .cells #[.int .i64 ((rd_T71 l0 x5_2).f0), .int .i64 ((rd_T71 l0 x5_2).f1.f0), .int .i64 ((rd_T71 l0 x5_2).f1.f1), .int .i64 ((rd_T71 l0 x5_2).f2)] 71 (0, 0)) (by (with_reducible repeat (first | refine blk_drewN ?_ _ | refine blk_drew ?_ | refine blk_alloc ?_ _)); refine blk_far ?_ NB118_120.out _; (with_reducible repeat (first | refine blk_drewN ?_ _ | refine blk_drew ?_ | refine blk_alloc ?_ _)); refine blk_far ?_ NB118_120.out _; (with_reducible repeat (first | refine blk_drewN ?_ _ | refine blk_drew ?_ | refine blk_alloc ?_ _)); refine blk_far ?_ NB118_120.out _; (with_reducible repeat (first | refine blk_drewN ?_ _ | refine blk_drew ?_ | refine blk_alloc ?_ _)); refine blk_far ?_ NB118_120.out _; (with_reducible repeat (first | refine blk_drewN ?_ _ | refine blk_drew ?_ | refine blk_alloc ?_ _)); exact BK118.out) hb); have n2_ := Aside0.mk (blk_below (g := gb120) (o := .cells #[.int .i64 ((rd_T71 l0 (ji24)).f0), .int .i64 ((rd_T71 l0 (ji24)).f1.f0), .int .i64 ((rd_T71 l0 (ji24)).f1.f1), .int .i64 ((rd_T71 l0 (ji24)).f2)] 71 (0, 0)) (by (with_reducible repeat (first | refine blk_drewN ?_ _ | refine blk_drew ?_ | refine blk_alloc ?_ _)); refine blk_put (cs := #[.int .i64 ((rd_T71 l0 (ji24)).f0), .int .i64 ((rd_T71 l0 (ji24)).f1.f0), .int .i64 ((rd_T71 l0 (ji24)).f1.f1), .int .i64 0]) ?_ 3 _ rfl; (with_reducible repeat (first | refine blk_drewN ?_ _ | refine blk_drew ?_ | refine blk_alloc ?_ _)); refine blk_put (cs := #[.int .i64 ((rd_T71 l0 (ji24)).f0), .int .i64 ((rd_T71 l0 (ji24)).f1.f0), .int .i64 0, .int .i64 0]) ?_ 2 _ rfl; (with_reducible repeat (first | refine blk_drewN ?_ _ | refine blk_drew ?_ | refine blk_alloc ?_ _)); refine blk_put (cs := #[.int .i64 ((rd_T71 l0 (ji24)).f0), .int .i64 0, .int .i64 0, .int .i64 0]) ?_ 1 _ rfl; (with_reducible repeat (first | refine blk_drewN ?_ _ | refine blk_drew ?_ | refine blk_alloc ?_ _)); refine blk_put (cs := #[.int .i64 0, .int .i64 0, .int .i64 0, .int .i64 0]) ?_ 0 _ rfl; (with_reducible repeat (first | refine blk_drewN ?_ _ | refine blk_drew ?_ | refine blk_alloc ?_ _)); exact BK120.out) hb); have n3_ := Aside0.mk (below_step (by repeat (first | (with_reducible first | exact HB.out | apply below_alloc | apply pw_below_drewN | apply below_drew1 | refine below_set ?_ GE115.out | refine below_set ?_ GE118.out | refine below_set ?_ GE120.out) | exact HB.out)) hb); clear BK115; clear BK118; clear BK120; clear HB; have BK115 := n0_; have BK118 := n1_; have BK120 := n2_; have HB := n3_; clear n0_ n1_ n2_ n3_; (try clear hb); (try clear hb2); (try clear hk); (try clear hi)) | ((with_reducible refine gate_dst (N := 10) rfl ?_); refine box_event ?hg (N := 10) ?hd (cs := #[.int .i64 0, .int .i64 0]) (t := 36) ?hr ?_; (case hd => rfl); (case hg => rfl); (case hr => first | (go_simp; done) | (go_simp; rfl)); intro gb124 hg wx3d9d1 hbox hb; have n0_ := Aside0.mk (blk_below (g := gb115) (o := .cells #[.int .i64 0, .int .i64 0, .int .i64 0, .int .i64 0] 71 (0, 0)) (by (with_reducible repeat (first | refine blk_drewN ?_ _ | refine blk_drew ?_ | refine blk_alloc ?_ _)); exact BK115.out) hb); have n1_ := Aside0.mk (blk_below (g := gb118) (o := .cells #[.int .i64 ((rd_T71 l0 x5_2).f0), .int .i64 ((rd_T71 l0 x5_2).f1.f0), .int .i64 ((rd_T71 l0 x5_2).f1.f1), .int .i64 ((rd_T71 l0 x5_2).f2)] 71 (0, 0)) (by (with_reducible repeat (first | refine blk_drewN ?_ _ | refine blk_drew ?_ | refine blk_alloc ?_ _)); exact BK118.out) hb); have n2_ := Aside0.mk (blk_below (g := gb120) (o := .cells #[.int .i64 ((rd_T71 l0 (ji24)).f0), .int .i64 ((rd_T71 l0 (ji24)).f1.f0), .int .i64 ((rd_T71 l0 (ji24)).f1.f1), .int .i64 ((rd_T71 l0 (ji24)).f2)] 71 (0, 0)) (by (with_reducible repeat (first | refine blk_drewN ?_ _ | refine blk_drew ?_ | refine blk_alloc ?_ _)); exact BK120.out) hb); have n3_ := Aside0.mk (below_step (by repeat (first | (with_reducible first | exact HB.out | apply below_alloc | apply pw_below_drewN | apply below_drew1 | refine below_set ?_ GE115.out | refine below_set ?_ GE118.out | refine below_set ?_ GE120.out) | exact HB.out)) hb); have n4_ := Aside0.mk (hbox); have n5_ := Aside0.mk ((by rw [hg]; exact (below_size (by repeat (first | (with_reducible first | exact HB.out | apply below_alloc | apply pw_below_drewN | apply below_drew1 | refine below_set ?_ GE115.out | refine below_set ?_ GE118.out | refine below_set ?_ GE120.out) | exact HB.out))) : w.heap.size ≤ gb124)); have n6_ := Aside0.mk ((by rw [hg]; exact (below_size (by repeat (first | (with_reducible first | exact HB.out | apply below_alloc | apply pw_below_drewN | apply below_drew1 | refine below_set ?_ GE115.out | refine below_set ?_ GE118.out | refine below_set ?_ GE120.out) | exact HB.out))) : w.heap.size ≤ gb124)); have n7_ := Aside0.mk ((by rw [hg]; exact Nat.ne_of_lt (blk_lt (g := gb115) (o := .cells #[.int .i64 0, .int .i64 0, .int .i64 0, .int .i64 0] 71 (0, 0)) (by (with_reducible repeat (first | refine blk_drewN ?_ _ | refine blk_drew ?_ | refine blk_alloc ?_ _)); exact BK115.out)) : gb115 ≠ gb124)); have n8_ := Aside0.mk ((by rw [hg]; exact Nat.ne_of_gt (blk_lt (g := gb115) (o := .cells #[.int .i64 0, .int .i64 0, .int .i64 0, .int .i64 0] 71 (0, 0)) (by (with_reducible repeat (first | refine blk_drewN ?_ _ | refine blk_drew ?_ | refine blk_alloc ?_ _)); exact BK115.out)) : gb124 ≠ gb115)); have n9_ := Aside0.mk ((by rw [hg]; exact Nat.ne_of_lt (blk_lt (g := gb118) (o := .cells #[.int .i64 ((rd_T71 l0 x5_2).f0), .int .i64 ((rd_T71 l0 x5_2).f1.f0), .int .i64 ((rd_T71 l0 x5_2).f1.f1), .int .i64 ((rd_T71 l0 x5_2).f2)] 71 (0, 0)) (by (with_reducible repeat (first | refine blk_drewN ?_ _ | refine blk_drew ?_ | refine blk_alloc ?_ _)); exact BK118.out)) : gb118 ≠ gb124)); have n10_ := Aside0.mk ((by rw [hg]; exact Nat.ne_of_gt (blk_lt (g := gb118) (o := .cells #[.int .i64 ((rd_T71 l0 x5_2).f0), .int .i64 ((rd_T71 l0 x5_2).f1.f0), .int .i64 ((rd_T71 l0 x5_2).f1.f1), .int .i64 ((rd_T71 l0 x5_2).f2)] 71 (0, 0)) (by (with_reducible repeat (first | refine blk_drewN ?_ _ | refine blk_drew ?_ | refine blk_alloc ?_ _)); exact BK118.out)) : gb124 ≠ gb118)); have n11_ := Aside0.mk ((by rw [hg]; exact Nat.ne_of_lt (blk_lt (g := gb120) (o := .cells #[.int .i64 ((rd_T71 l0 (ji24)).f0), .int .i64 ((rd_T71 l0 (ji24)).f1.f0), .int .i64 ((rd_T71 l0 (ji24)).f1.f1), .int .i64 ((rd_T71 l0 (ji24)).f2)] 71 (0, 0)) (by (with_reducible repeat (first | refine blk_drewN ?_ _ | refine blk_drew ?_ | refine blk_alloc ?_ _)); exact BK120.out)) : gb120 ≠ gb124)); have n12_ := Aside0.mk ((by rw [hg]; exact Nat.ne_of_gt (blk_lt (g := gb120) (o := .cells #[.int .i64 ((rd_T71 l0 (ji24)).f0), .int .i64 ((rd_T71 l0 (ji24)).f1.f0), .int .i64 ((rd_T71 l0 (ji24)).f1.f1), .int .i64 ((rd_T71 l0 (ji24)).f2)] 71 (0, 0)) (by (with_reducible repeat (first | refine blk_drewN ?_ _ | refine blk_drew ?_ | refine blk_alloc ?_ _)); exact BK120.out)) : gb124 ≠ gb120)); clear BK115; clear BK118; clear BK120; clear HB; have BK115 := n0_; have BK118 := n1_; have BK120 := n2_; have HB := n3_; have BK124 := n4_; have GW124 := n5_; have GE124 := n6_; have NB115_124 := n7_; have NB124_115 := n8_; have NB118_124 := n9_; have NB124_118 := n10_; have NB120_124 := n11_; have NB124_120 := n12_; clear n0_ n1_ n2_ n3_ n4_ n5_ n6_ n7_ n8_ n9_ n10_ n11_ n12_; clear hb hbox hg; have hnbx3d9d1 := NB124_115.out; have hncx3d9d1 := NB115_124.out; have hnbx3d9d2 := NB124_118.out; have hncx3d9d2 := NB118_124.out; have hnbx3d9d3 := NB124_120.out; have hncx3d9d3 := NB120_124.out; have hczx3d9d1 : wx3d9d1.cell? ⟨gb124, 0, none⟩ = some (.int .i64 0) := (blk_cell BK124.out 0).trans rfl; have hczx3d9d2 : wx3d9d1.cell? ⟨gb124, 1, none⟩ = some (.int .i64 0) := (blk_cell BK124.out 1).trans rfl; have hfzx3d9d1 := blk_frozen BK124.out 0; have hfzx3d9d2 := blk_frozen BK124.out 1; have hczx3d9d3 : wx3d9d1.cell? ⟨gb120, 0, none⟩ = some (.int .i64 ((rd_T71 l0 (ji24)).f0)) := (blk_cell BK120.out 0).trans rfl; have hczx3d9d4 : wx3d9d1.cell? ⟨gb120, 1, none⟩ = some (.int .i64 ((rd_T71 l0 (ji24)).f1.f0)) := (blk_cell BK120.out 1).trans rfl; have hczx3d9d5 : wx3d9d1.cell? ⟨gb120, 2, none⟩ = some (.int .i64 ((rd_T71 l0 (ji24)).f1.f1)) := (blk_cell BK120.out 2).trans rfl; have hczx3d9d6 : wx3d9d1.cell? ⟨gb120, 3, none⟩ = some (.int .i64 ((rd_T71 l0 (ji24)).f2)) := (blk_cell BK120.out 3).trans rfl; have hfzx3d9d3 := blk_frozen BK120.out 0; have hfzx3d9d4 := blk_frozen BK120.out 1; have hfzx3d9d5 := blk_frozen BK120.out 2; have hfzx3d9d6 := blk_frozen BK120.out 3; have hczx3d9d7 : wx3d9d1.cell? ⟨gb118, 0, none⟩ = some (.int .i64 ((rd_T71 l0 x5_2).f0)) := (blk_cell BK118.out 0).trans rfl; have hczx3d9d8 : wx3d9d1.cell? ⟨gb118, 1, none⟩ = some (.int .i64 ((rd_T71 l0 x5_2).f1.f0)) := (blk_cell BK118.out 1).trans rfl; have hczx3d9d9 : wx3d9d1.cell? ⟨gb118, 2, none⟩ = some (.int .i64 ((rd_T71 l0 x5_2).f1.f1)) := (blk_cell BK118.out 2).trans rfl; have hczx3d9d10 : wx3d9d1.cell? ⟨gb118, 3, none⟩ = some (.int .i64 ((rd_T71 l0 x5_2).f2)) := (blk_cell BK118.out 3).trans rfl; have hfzx3d9d7 := blk_frozen BK118.out 0; have hfzx3d9d8 := blk_frozen BK118.out 1; have hfzx3d9d9 := blk_frozen BK118.out 2; have hfzx3d9d10 := blk_frozen BK118.out 3) | (go_at_call 111; (with_reducible refine (num_DivDown.calls kj10 (wrap64 ((wrap64 (((rd_T71 l0 (ji24)).f2) - ((rd_T71 l0 x5_2).f2))) * (wrap64 (a1 - ((rd_T71 l0 x5_2).f0))))) (wrap64 (((rd_T71 l0 (ji24)).f0) - ((rd_T71 l0 x5_2).f0))) t125 t126 _ A28.out).mono ?_); rintro e wxfe8c1 ⟨rfl, hb⟩; have n0_ := Aside0.mk (blk_below (g := gb115) (o := .cells #[.int .i64 0, .int .i64 0, .int .i64 0, .int .i64 0] 71 (0, 0)) (by (with_reducible repeat (first | refine blk_drewN ?_ _ | refine blk_drew ?_ | refine blk_alloc ?_ _)); refine blk_far ?_ NB115_124.out _; (with_reducible repeat (first | refine blk_drewN ?_ _ | refine blk_drew ?_ | refine blk_alloc ?_ _)); refine blk_far ?_ NB115_124.out _; (with_reducible repeat (first | refine blk_drewN ?_ _ | refine blk_drew ?_ | refine blk_alloc ?_ _)); exact BK115.out) hb); have n1_ := Aside0.mk (blk_below (g := gb118) (o := .cells #[.int .i64 ((rd_T71 l0 x5_2).f0), .int .i64 ((rd_T71 l0 x5_2).f1.f0), .int .i64 ((rd_T71 l0 x5_2).f1.f1), .int .i64 ((rd_T71 l0 x5_2).f2)] 71 (0, 0)) (by (with_reducible repeat (first | refine blk_drewN ?_ _ | refine blk_drew ?_ | refine blk_alloc ?_ _)); refine blk_far ?_ NB118_124.out _; (with_reducible repeat (first | refine blk_drewN ?_ _ | refine blk_drew ?_ | refine blk_alloc ?_ _)); refine blk_far ?_ NB118_124.out _; (with_reducible repeat (first | refine blk_drewN ?_ _ | refine blk_drew ?_ | refine blk_alloc ?_ _)); exact BK118.out) hb); have n2_ := Aside0.mk (blk_below (g := gb120) (o := .cells #[.int .i64 ((rd_T71 l0 (ji24)).f0), .int .i64 ((rd_T71 l0 (ji24)).f1.f0), .int .i64 ((rd_T71 l0 (ji24)).f1.f1), .int .i64 ((rd_T71 l0 (ji24)).f2)] 71 (0, 0)) (by (with_reducible repeat (first | refine blk_drewN ?_ _ | refine blk_drew ?_ | refine blk_alloc ?_ _)); refine blk_far ?_ NB120_124.out _; (with_reducible repeat (first | refine blk_drewN ?_ _ | refine blk_drew ?_ | refine blk_alloc ?_ _)); refine blk_far ?_ NB120_124.out _; (with_reducible repeat (first | refine blk_drewN ?_ _ | refine blk_drew ?_ | refine blk_alloc ?_ _)); exact BK120.out) hb); have n3_ := Aside0.mk (blk_below (g := gb124) (o := .cells #[.int .i64 t121, .int .i64 t122] 36 (0, 0)) (by (with_reducible repeat (first | refine blk_drewN ?_ _ | refine blk_drew ?_ | refine blk_alloc ?_ _)); refine blk_put (cs := #[.int .i64 t121, .int .i64 0]) ?_ 1 _ rfl; (with_reducible repeat (first | refine blk_drewN ?_ _ | refine blk_drew ?_ | refine blk_alloc ?_ _)); refine blk_put (cs := #[.int .i64 0, .int .i64 0]) ?_ 0 _ rfl; (with_reducible repeat (first | refine blk_drewN ?_ _ | refine blk_drew ?_ | refine blk_alloc ?_ _)); exact BK124.out) hb); have n4_ := Aside0.mk (below_step (by repeat (first | (with_reducible first | exact HB.out | apply below_alloc | apply pw_below_drewN | apply below_drew1 | refine below_set ?_ GE115.out | refine below_set ?_ GE118.out | refine below_set ?_ GE120.out | refine below_set ?_ GE124.out) | exact HB.out)) hb); clear BK115; clear BK118; clear BK120; clear BK124; clear HB; have BK115 := n0_; have BK118 := n1_; have BK120 := n2_; have BK124 := n3_; have HB := n4_; clear n0_ n1_ n2_ n3_ n4_; (try clear hb); (try clear hb2); (try clear hk); (try clear hi); have hczxfe8c1 : wxfe8c1.cell? ⟨gb124, 0, none⟩ = some (.int .i64 t121) := (blk_cell BK124.out 0).trans rfl; have hczxfe8c2 : wxfe8c1.cell? ⟨gb124, 1, none⟩ = some (.int .i64 t122) := (blk_cell BK124.out 1).trans rfl; have hfzxfe8c1 := blk_frozen BK124.out 0; have hfzxfe8c2 := blk_frozen BK124.out 1; have hczxfe8c3 : wxfe8c1.cell? ⟨gb118, 0, none⟩ = some (.int .i64 ((rd_T71 l0 x5_2).f0)) := (blk_cell BK118.out 0).trans rfl; have hczxfe8c4 : wxfe8c1.cell? ⟨gb118, 1, none⟩ = some (.int .i64 ((rd_T71 l0 x5_2).f1.f0)) := (blk_cell BK118.out 1).trans rfl; have hczxfe8c5 : wxfe8c1.cell? ⟨gb118, 2, none⟩ = some (.int .i64 ((rd_T71 l0 x5_2).f1.f1)) := (blk_cell BK118.out 2).trans rfl; have hczxfe8c6 : wxfe8c1.cell? ⟨gb118, 3, none⟩ = some (.int .i64 ((rd_T71 l0 x5_2).f2)) := (blk_cell BK118.out 3).trans rfl; have hfzxfe8c3 := blk_frozen BK118.out 0; have hfzxfe8c4 := blk_frozen BK118.out 1; have hfzxfe8c5 := blk_frozen BK118.out 2; have hfzxfe8c6 := blk_frozen BK118.out 3; have hczxfe8c7 : wxfe8c1.cell? ⟨gb115, 0, none⟩ = some (.int .i64 0) := (blk_cell BK115.out 0).trans rfl; have hczxfe8c8 : wxfe8c1.cell? ⟨gb115, 1, none⟩ = some (.int .i64 0) := (blk_cell BK115.out 1).trans rfl; have hczxfe8c9 : wxfe8c1.cell? ⟨gb115, 2, none⟩ = some (.int .i64 0) := (blk_cell BK115.out 2).trans rfl; have hczxfe8c10 : wxfe8c1.cell? ⟨gb115, 3, none⟩ = some (.int .i64 0) := (blk_cell BK115.out 3).trans rfl; have hfzxfe8c7 := blk_frozen BK115.out 0; have hfzxfe8c8 := blk_frozen BK115.out 1; have hfzxfe8c9 := blk_frozen BK115.out 2; have hfzxfe8c10 := blk_frozen BK115.out 3))
               repeat (go_quiet (first | ((with_reducible refine gate_dst (N := 7) rfl ?_); refine box_event ?hg (N := 7) ?hd (cs := #[.int .i64 0, .int .i64 0, .int .i64 0, .int .i64 0]) (t := 71) ?hr ?_; (case hd => rfl); (case hg => rfl); (case hr => first | (go_simp; done) | (go_simp; rfl)); intro gb120 hg wx7c5f1 hbox hb; have n0_ := Aside0.mk (blk_below (g := gb115) (o := .cells #[.int .i64 0, .int .i64 0, .int .i64 0, .int .i64 0] 71 (0, 0)) (by (with_reducible repeat (first | refine blk_drewN ?_ _ | refine blk_drew ?_ | refine blk_alloc ?_ _)); exact BK115.out) hb); have n1_ := Aside0.mk (blk_below (g := gb118) (o := .cells #[.int .i64 ((rd_T71 l0 x5_2).f0), .int .i64 ((rd_T71 l0 x5_2).f1.f0), .int .i64 ((rd_T71 l0 x5_2).f1.f1), .int .i64 ((rd_T71 l0 x5_2).f2)] 71 (0, 0)) (by (with_reducible repeat (first | refine blk_drewN ?_ _ | refine blk_drew ?_ | refine blk_alloc ?_ _)); exact BK118.out) hb); have n2_ := Aside0.mk (below_step (by repeat (first | (with_reducible first | exact HB.out | apply below_alloc | apply pw_below_drewN | apply below_drew1 | refine below_set ?_ GE115.out | refine below_set ?_ GE118.out) | exact HB.out)) hb); have n3_ := Aside0.mk (hbox); have n4_ := Aside0.mk ((by rw [hg]; exact (below_size (by repeat (first | (with_reducible first | exact HB.out | apply below_alloc | apply pw_below_drewN | apply below_drew1 | refine below_set ?_ GE115.out | refine below_set ?_ GE118.out) | exact HB.out))) : w.heap.size ≤ gb120)); have n5_ := Aside0.mk ((by rw [hg]; exact (below_size (by repeat (first | (with_reducible first | exact HB.out | apply below_alloc | apply pw_below_drewN | apply below_drew1 | refine below_set ?_ GE115.out | refine below_set ?_ GE118.out) | exact HB.out))) : w.heap.size ≤ gb120)); have n6_ := Aside0.mk ((by rw [hg]; exact Nat.ne_of_lt (blk_lt (g := gb115) (o := .cells #[.int .i64 0, .int .i64 0, .int .i64 0, .int .i64 0] 71 (0, 0)) (by (with_reducible repeat (first | refine blk_drewN ?_ _ | refine blk_drew ?_ | refine blk_alloc ?_ _)); exact BK115.out)) : gb115 ≠ gb120)); have n7_ := Aside0.mk ((by rw [hg]; exact Nat.ne_of_gt (blk_lt (g := gb115) (o := .cells #[.int .i64 0, .int .i64 0, .int .i64 0, .int .i64 0] 71 (0, 0)) (by (with_reducible repeat (first | refine blk_drewN ?_ _ | refine blk_drew ?_ | refine blk_alloc ?_ _)); exact BK115.out)) : gb120 ≠ gb115)); have n8_ := Aside0.mk ((by rw [hg]; exact Nat.ne_of_lt (blk_lt (g := gb118) (o := .cells #[.int .i64 ((rd_T71 l0 x5_2).f0), .int .i64 ((rd_T71 l0 x5_2).f1.f0), .int .i64 ((rd_T71 l0 x5_2).f1.f1), .int .i64 ((rd_T71 l0 x5_2).f2)] 71 (0, 0)) (by (with_reducible repeat (first | refine blk_drewN ?_ _ | refine blk_drew ?_ | refine blk_alloc ?_ _)); exact BK118.out)) : gb118 ≠ gb120)); have n9_ := Aside0.mk ((by rw [hg]; exact Nat.ne_of_gt (blk_lt (g := gb118) (o := .cells #[.int .i64 ((rd_T71 l0 x5_2).f0), .int .i64 ((rd_T71 l0 x5_2).f1.f0), .int .i64 ((rd_T71 l0 x5_2).f1.f1), .int .i64 ((rd_T71 l0 x5_2).f2)] 71 (0, 0)) (by (with_reducible repeat (first | refine blk_drewN ?_ _ | refine blk_drew ?_ | refine blk_alloc ?_ _)); exact BK118.out)) : gb120 ≠ gb118)); clear BK115; clear BK118; clear HB; have BK115 := n0_; have BK118 := n1_; have HB := n2_; have BK120 := n3_; have GW120 := n4_; have GE120 := n5_; have NB115_120 := n6_; have NB120_115 := n7_; have NB118_120 := n8_; have NB120_118 := n9_; clear n0_ n1_ n2_ n3_ n4_ n5_ n6_ n7_ n8_ n9_; clear hb hbox hg; have hnbx7c5f1 := NB120_115.out; have hncx7c5f1 := NB115_120.out; have hnbx7c5f2 := NB120_118.out; have hncx7c5f2 := NB118_120.out; have hczx7c5f1 : wx7c5f1.cell? ⟨gb120, 0, none⟩ = some (.int .i64 0) := (blk_cell BK120.out 0).trans rfl; have hczx7c5f2 : wx7c5f1.cell? ⟨gb120, 1, none⟩ = some (.int .i64 0) := (blk_cell BK120.out 1).trans rfl; have hczx7c5f3 : wx7c5f1.cell? ⟨gb120, 2, none⟩ = some (.int .i64 0) := (blk_cell BK120.out 2).trans rfl; have hczx7c5f4 : wx7c5f1.cell? ⟨gb120, 3, none⟩ = some (.int .i64 0) := (blk_cell BK120.out 3).trans rfl; have hfzx7c5f1 := blk_frozen BK120.out 0; have hfzx7c5f2 := blk_frozen BK120.out 1; have hfzx7c5f3 := blk_frozen BK120.out 2; have hfzx7c5f4 := blk_frozen BK120.out 3; have hnbx7c5f3 := NB118_115.out; have hncx7c5f3 := NB115_118.out; have hczx7c5f5 : wx7c5f1.cell? ⟨gb118, 0, none⟩ = some (.int .i64 ((rd_T71 l0 x5_2).f0)) := (blk_cell BK118.out 0).trans rfl; have hczx7c5f6 : wx7c5f1.cell? ⟨gb118, 1, none⟩ = some (.int .i64 ((rd_T71 l0 x5_2).f1.f0)) := (blk_cell BK118.out 1).trans rfl; have hczx7c5f7 : wx7c5f1.cell? ⟨gb118, 2, none⟩ = some (.int .i64 ((rd_T71 l0 x5_2).f1.f1)) := (blk_cell BK118.out 2).trans rfl; have hczx7c5f8 : wx7c5f1.cell? ⟨gb118, 3, none⟩ = some (.int .i64 ((rd_T71 l0 x5_2).f2)) := (blk_cell BK118.out 3).trans rfl; have hfzx7c5f5 := blk_frozen BK118.out 0; have hfzx7c5f6 := blk_frozen BK118.out 1; have hfzx7c5f7 := blk_frozen BK118.out 2; have hfzx7c5f8 := blk_frozen BK118.out 3) | (go_at_call 110; (with_reducible refine (plane_Toward.calls kj10 ((rd_T71 l0 x5_2).f1.f0) ((rd_T71 l0 x5_2).f1.f1) ((rd_T71 l0 (ji24)).f1.f0) ((rd_T71 l0 (ji24)).f1.f1) (wrap64 (a1 - ((rd_T71 l0 x5_2).f0))) (wrap64 (((rd_T71 l0 (ji24)).f0) - ((rd_T71 l0 x5_2).f0))) t121 t122 t123 _ A27.out).mono ?_); rintro e wx097a1 ⟨rfl, hb⟩; have n0_ := Aside0.mk (blk_below (g := gb115) (o := .cells #[.int .i64 0, .int .i64 0, .int .i64 0, .int .i64 0] 71 (0, 0)) (by (with_reducible repeat (first | refine blk_drewN ?_ _ | refine blk_drew ?_ | refine blk_alloc ?_ _)); refine blk_far ?_ NB115_120.out _; (with_reducible repeat (first | refine blk_drewN ?_ _ | refine blk_drew ?_ | refine blk_alloc ?_ _)); refine blk_far ?_ NB115_120.out _; (with_reducible repeat (first | refine blk_drewN ?_ _ | refine blk_drew ?_ | refine blk_alloc ?_ _)); refine blk_far ?_ NB115_120.out _; (with_reducible repeat (first | refine blk_drewN ?_ _ | refine blk_drew ?_ | refine blk_alloc ?_ _)); refine blk_far ?_ NB115_120.out _; (with_reducible repeat (first | refine blk_drewN ?_ _ | refine blk_drew ?_ | refine blk_alloc ?_ _)); exact BK115.out) hb); have n1_ := Aside0.mk (blk_below (g := gb118) (o := .cells #[.int .i64 ((rd_T71 l0 x5_2).f0), .int .i64 ((rd_T71 l0 x5_2).f1.f0), .int .i64 ((rd_T71 l0 x5_2).f1.f1), .int .i64 ((rd_T71 l0 x5_2).f2)] 71 (0, 0)) (by (with_reducible repeat (first | refine blk_drewN ?_ _ | refine blk_drew ?_ | refine blk_alloc ?_ _)); refine blk_far ?_ NB118_120.out _; (with_reducible repeat (first | refine blk_drewN ?_ _ | refine blk_drew ?_ | refine blk_alloc ?_ _)); refine blk_far ?_ NB118_120.out _; (with_reducible repeat (first | refine blk_drewN ?_ _ | refine blk_drew ?_ | refine blk_alloc ?_ _)); refine blk_far ?_ NB118_120.out _; (with_reducible repeat (first | refine blk_drewN ?_ _ | refine blk_drew ?_ | refine blk_alloc ?_ _)); refine blk_far ?_ NB118_120.out _; (with_reducible repeat (first | refine blk_drewN ?_ _ | refine blk_drew ?_ | refine blk_alloc ?_ _)); exact BK118.out) hb); have n2_ := Aside0.mk (blk_below (g := gb120) (o := .cells #[.int .i64 ((rd_T71 l0 (ji24)).f0), .int .i64 ((rd_T71 l0 (ji24)).f1.f0), .int .i64 ((rd_T71 l0 (ji24)).f1.f1), .int .i64 ((rd_T71 l0 (ji24)).f2)] 71 (0, 0)) (by (with_reducible repeat (first | refine blk_drewN ?_ _ | refine blk_drew ?_ | refine blk_alloc ?_ _)); refine blk_put (cs := #[.int .i64 ((rd_T71 l0 (ji24)).f0), .int .i64 ((rd_T71 l0 (ji24)).f1.f0), .int .i64 ((rd_T71 l0 (ji24)).f1.f1), .int .i64 0]) ?_ 3 _ rfl; (with_reducible repeat (first | refine blk_drewN ?_ _ | refine blk_drew ?_ | refine blk_alloc ?_ _)); refine blk_put (cs := #[.int .i64 ((rd_T71 l0 (ji24)).f0), .int .i64 ((rd_T71 l0 (ji24)).f1.f0), .int .i64 0, .int .i64 0]) ?_ 2 _ rfl; (with_reducible repeat (first | refine blk_drewN ?_ _ | refine blk_drew ?_ | refine blk_alloc ?_ _)); refine blk_put (cs := #[.int .i64 ((rd_T71 l0 (ji24)).f0), .int .i64 0, .int .i64 0, .int .i64 0]) ?_ 1 _ rfl; (with_reducible repeat (first | refine blk_drewN ?_ _ | refine blk_drew ?_ | refine blk_alloc ?_ _)); refine blk_put (cs := #[.int .i64 0, .int .i64 0, .int .i64 0, .int .i64 0]) ?_ 0 _ rfl; (with_reducible repeat (first | refine blk_drewN ?_ _ | refine blk_drew ?_ | refine blk_alloc ?_ _)); exact BK120.out) hb); have n3_ := Aside0.mk (below_step (by repeat (first | (with_reducible first | exact HB.out | apply below_alloc | apply pw_below_drewN | apply below_drew1 | refine below_set ?_ GE115.out | refine below_set ?_ GE118.out | refine below_set ?_ GE120.out) | exact HB.out)) hb); clear BK115; clear BK118; clear BK120; clear HB; have BK115 := n0_; have BK118 := n1_; have BK120 := n2_; have HB := n3_; clear n0_ n1_ n2_ n3_; (try clear hb); (try clear hb2); (try clear hk); (try clear hi)) | ((with_reducible refine gate_dst (N := 10) rfl ?_); refine box_event ?hg (N := 10) ?hd (cs := #[.int .i64 0, .int .i64 0]) (t := 36) ?hr ?_; (case hd => rfl); (case hg => rfl); (case hr => first | (go_simp; done) | (go_simp; rfl)); intro gb124 hg wx3d9d1 hbox hb; have n0_ := Aside0.mk (blk_below (g := gb115) (o := .cells #[.int .i64 0, .int .i64 0, .int .i64 0, .int .i64 0] 71 (0, 0)) (by (with_reducible repeat (first | refine blk_drewN ?_ _ | refine blk_drew ?_ | refine blk_alloc ?_ _)); exact BK115.out) hb); have n1_ := Aside0.mk (blk_below (g := gb118) (o := .cells #[.int .i64 ((rd_T71 l0 x5_2).f0), .int .i64 ((rd_T71 l0 x5_2).f1.f0), .int .i64 ((rd_T71 l0 x5_2).f1.f1), .int .i64 ((rd_T71 l0 x5_2).f2)] 71 (0, 0)) (by (with_reducible repeat (first | refine blk_drewN ?_ _ | refine blk_drew ?_ | refine blk_alloc ?_ _)); exact BK118.out) hb); have n2_ := Aside0.mk (blk_below (g := gb120) (o := .cells #[.int .i64 ((rd_T71 l0 (ji24)).f0), .int .i64 ((rd_T71 l0 (ji24)).f1.f0), .int .i64 ((rd_T71 l0 (ji24)).f1.f1), .int .i64 ((rd_T71 l0 (ji24)).f2)] 71 (0, 0)) (by (with_reducible repeat (first | refine blk_drewN ?_ _ | refine blk_drew ?_ | refine blk_alloc ?_ _)); exact BK120.out) hb); have n3_ := Aside0.mk (below_step (by repeat (first | (with_reducible first | exact HB.out | apply below_alloc | apply pw_below_drewN | apply below_drew1 | refine below_set ?_ GE115.out | refine below_set ?_ GE118.out | refine below_set ?_ GE120.out) | exact HB.out)) hb); have n4_ := Aside0.mk (hbox); have n5_ := Aside0.mk ((by rw [hg]; exact (below_size (by repeat (first | (with_reducible first | exact HB.out | apply below_alloc | apply pw_below_drewN | apply below_drew1 | refine below_set ?_ GE115.out | refine below_set ?_ GE118.out | refine below_set ?_ GE120.out) | exact HB.out))) : w.heap.size ≤ gb124)); have n6_ := Aside0.mk ((by rw [hg]; exact (below_size (by repeat (first | (with_reducible first | exact HB.out | apply below_alloc | apply pw_below_drewN | apply below_drew1 | refine below_set ?_ GE115.out | refine below_set ?_ GE118.out | refine below_set ?_ GE120.out) | exact HB.out))) : w.heap.size ≤ gb124)); have n7_ := Aside0.mk ((by rw [hg]; exact Nat.ne_of_lt (blk_lt (g := gb115) (o := .cells #[.int .i64 0, .int .i64 0, .int .i64 0, .int .i64 0] 71 (0, 0)) (by (with_reducible repeat (first | refine blk_drewN ?_ _ | refine blk_drew ?_ | refine blk_alloc ?_ _)); exact BK115.out)) : gb115 ≠ gb124)); have n8_ := Aside0.mk ((by rw [hg]; exact Nat.ne_of_gt (blk_lt (g := gb115) (o := .cells #[.int .i64 0, .int .i64 0, .int .i64 0, .int .i64 0] 71 (0, 0)) (by (with_reducible repeat (first | refine blk_drewN ?_ _ | refine blk_drew ?_ | refine blk_alloc ?_ _)); exact BK115.out)) : gb124 ≠ gb115)); have n9_ := Aside0.mk ((by rw [hg]; exact Nat.ne_of_lt (blk_lt (g := gb118) (o := .cells #[.int .i64 ((rd_T71 l0 x5_2).f0), .int .i64 ((rd_T71 l0 x5_2).f1.f0), .int .i64 ((rd_T71 l0 x5_2).f1.f1), .int .i64 ((rd_T71 l0 x5_2).f2)] 71 (0, 0)) (by (with_reducible repeat (first | refine blk_drewN ?_ _ | refine blk_drew ?_ | refine blk_alloc ?_ _)); exact BK118.out)) : gb118 ≠ gb124)); have n10_ := Aside0.mk ((by rw [hg]; exact Nat.ne_of_gt (blk_lt (g := gb118) (o := .cells #[.int .i64 ((rd_T71 l0 x5_2).f0), .int .i64 ((rd_T71 l0 x5_2).f1.f0), .int .i64 ((rd_T71 l0 x5_2).f1.f1), .int .i64 ((rd_T71 l0 x5_2).f2)] 71 (0, 0)) (by (with_reducible repeat (first | refine blk_drewN ?_ _ | refine blk_drew ?_ | refine blk_alloc ?_ _)); exact BK118.out)) : gb124 ≠ gb118)); have n11_ := Aside0.mk ((by rw [hg]; exact Nat.ne_of_lt (blk_lt (g := gb120) (o := .cells #[.int .i64 ((rd_T71 l0 (ji24)).f0), .int .i64 ((rd_T71 l0 (ji24)).f1.f0), .int .i64 ((rd_T71 l0 (ji24)).f1.f1), .int .i64 ((rd_T71 l0 (ji24)).f2)] 71 (0, 0)) (by (with_reducible repeat (first | refine blk_drewN ?_ _ | refine blk_drew ?_ | refine blk_alloc ?_ _)); exact BK120.out)) : gb120 ≠ gb124)); have n12_ := Aside0.mk ((by rw [hg]; exact Nat.ne_of_gt (blk_lt (g := gb120) (o := .cells #[.int .i64 ((rd_T71 l0 (ji24)).f0), .int .i64 ((rd_T71 l0 (ji24)).f1.f0), .int .i64 ((rd_T71 l0 (ji24)).f1.f1), .int .i64 ((rd_T71 l0 (ji24)).f2)] 71 (0, 0)) (by (with_reducible repeat (first | refine blk_drewN ?_ _ | refine blk_drew ?_ | refine blk_alloc ?_ _)); exact BK120.out)) : gb124 ≠ gb120)); clear BK115; clear BK118; clear BK120; clear HB; have BK115 := n0_; have BK118 := n1_; have BK120 := n2_; have HB := n3_; have BK124 := n4_; have GW124 := n5_; have GE124 := n6_; have NB115_124 := n7_; have NB124_115 := n8_; have NB118_124 := n9_; have NB124_118 := n10_; have NB120_124 := n11_; have NB124_120 := n12_; clear n0_ n1_ n2_ n3_ n4_ n5_ n6_ n7_ n8_ n9_ n10_ n11_ n12_; clear hb hbox hg; have hnbx3d9d1 := NB124_115.out; have hncx3d9d1 := NB115_124.out; have hnbx3d9d2 := NB124_118.out; have hncx3d9d2 := NB118_124.out; have hnbx3d9d3 := NB124_120.out; have hncx3d9d3 := NB120_124.out; have hczx3d9d1 : wx3d9d1.cell? ⟨gb124, 0, none⟩ = some (.int .i64 0) := (blk_cell BK124.out 0).trans rfl; have hczx3d9d2 : wx3d9d1.cell? ⟨gb124, 1, none⟩ = some (.int .i64 0) := (blk_cell BK124.out 1).trans rfl; have hfzx3d9d1 := blk_frozen BK124.out 0; have hfzx3d9d2 := blk_frozen BK124.out 1; have hczx3d9d3 : wx3d9d1.cell? ⟨gb120, 0, none⟩ = some (.int .i64 ((rd_T71 l0 (ji24)).f0)) := (blk_cell BK120.out 0).trans rfl; have hczx3d9d4 : wx3d9d1.cell? ⟨gb120, 1, none⟩ = some (.int .i64 ((rd_T71 l0 (ji24)).f1.f0)) := (blk_cell BK120.out 1).trans rfl; have hczx3d9d5 : wx3d9d1.cell? ⟨gb120, 2, none⟩ = some (.int .i64 ((rd_T71 l0 (ji24)).f1.f1)) := (blk_cell BK120.out 2).trans rfl; have hczx3d9d6 : wx3d9d1.cell? ⟨gb120, 3, none⟩ = some (.int .i64 ((rd_T71 l0 (ji24)).f2)) := (blk_cell BK120.out 3).trans rfl; have hfzx3d9d3 := blk_frozen BK120.out 0; have hfzx3d9d4 := blk_frozen BK120.out 1; have hfzx3d9d5 := blk_frozen BK120.out 2; have hfzx3d9d6 := blk_frozen BK120.out 3; have hczx3d9d7 : wx3d9d1.cell? ⟨gb118, 0, none⟩ = some (.int .i64 ((rd_T71 l0 x5_2).f0)) := (blk_cell BK118.out 0).trans rfl; have hczx3d9d8 : wx3d9d1.cell? ⟨gb118, 1, none⟩ = some (.int .i64 ((rd_T71 l0 x5_2).f1.f0)) := (blk_cell BK118.out 1).trans rfl; have hczx3d9d9 : wx3d9d1.cell? ⟨gb118, 2, none⟩ = some (.int .i64 ((rd_T71 l0 x5_2).f1.f1)) := (blk_cell BK118.out 2).trans rfl; have hczx3d9d10 : wx3d9d1.cell? ⟨gb118, 3, none⟩ = some (.int .i64 ((rd_T71 l0 x5_2).f2)) := (blk_cell BK118.out 3).trans rfl; have hfzx3d9d7 := blk_frozen BK118.out 0; have hfzx3d9d8 := blk_frozen BK118.out 1; have hfzx3d9d9 := blk_frozen BK118.out 2; have hfzx3d9d10 := blk_frozen BK118.out 3) | (go_at_call 111; (with_reducible refine (num_DivDown.calls kj10 (wrap64 ((wrap64 (((rd_T71 l0 (ji24)).f2) - ((rd_T71 l0 x5_2).f2))) * (wrap64 (a1 - ((rd_T71 l0 x5_2).f0))))) (wrap64 (((rd_T71 l0 (ji24)).f0) - ((rd_T71 l0 x5_2).f0))) t125 t126 _ A28.out).mono ?_); rintro e wxfe8c1 ⟨rfl, hb⟩; have n0_ := Aside0.mk (blk_below (g := gb115) (o := .cells #[.int .i64 0, .int .i64 0, .int .i64 0, .int .i64 0] 71 (0, 0)) (by (with_reducible repeat (first | refine blk_drewN ?_ _ | refine blk_drew ?_ | refine blk_alloc ?_ _)); refine blk_far ?_ NB115_124.out _; (with_reducible repeat (first | refine blk_drewN ?_ _ | refine blk_drew ?_ | refine blk_alloc ?_ _)); refine blk_far ?_ NB115_124.out _; (with_reducible repeat (first | refine blk_drewN ?_ _ | refine blk_drew ?_ | refine blk_alloc ?_ _)); exact BK115.out) hb); have n1_ := Aside0.mk (blk_below (g := gb118) (o := .cells #[.int .i64 ((rd_T71 l0 x5_2).f0), .int .i64 ((rd_T71 l0 x5_2).f1.f0), .int .i64 ((rd_T71 l0 x5_2).f1.f1), .int .i64 ((rd_T71 l0 x5_2).f2)] 71 (0, 0)) (by (with_reducible repeat (first | refine blk_drewN ?_ _ | refine blk_drew ?_ | refine blk_alloc ?_ _)); refine blk_far ?_ NB118_124.out _; (with_reducible repeat (first | refine blk_drewN ?_ _ | refine blk_drew ?_ | refine blk_alloc ?_ _)); refine blk_far ?_ NB118_124.out _; (with_reducible repeat (first | refine blk_drewN ?_ _ | refine blk_drew ?_ | refine blk_alloc ?_ _)); exact BK118.out) hb); have n2_ := Aside0.mk (blk_below (g := gb120) (o := .cells #[.int .i64 ((rd_T71 l0 (ji24)).f0), .int .i64 ((rd_T71 l0 (ji24)).f1.f0), .int .i64 ((rd_T71 l0 (ji24)).f1.f1), .int .i64 ((rd_T71 l0 (ji24)).f2)] 71 (0, 0)) (by (with_reducible repeat (first | refine blk_drewN ?_ _ | refine blk_drew ?_ | refine blk_alloc ?_ _)); refine blk_far ?_ NB120_124.out _; (with_reducible repeat (first | refine blk_drewN ?_ _ | refine blk_drew ?_ | refine blk_alloc ?_ _)); refine blk_far ?_ NB120_124.out _; (with_reducible repeat (first | refine blk_drewN ?_ _ | refine blk_drew ?_ | refine blk_alloc ?_ _)); exact BK120.out) hb); have n3_ := Aside0.mk (blk_below (g := gb124) (o := .cells #[.int .i64 t121, .int .i64 t122] 36 (0, 0)) (by (with_reducible repeat (first | refine blk_drewN ?_ _ | refine blk_drew ?_ | refine blk_alloc ?_ _)); refine blk_put (cs := #[.int .i64 t121, .int .i64 0]) ?_ 1 _ rfl; (with_reducible repeat (first | refine blk_drewN ?_ _ | refine blk_drew ?_ | refine blk_alloc ?_ _)); refine blk_put (cs := #[.int .i64 0, .int .i64 0]) ?_ 0 _ rfl; (with_reducible repeat (first | refine blk_drewN ?_ _ | refine blk_drew ?_ | refine blk_alloc ?_ _)); exact BK124.out) hb); have n4_ := Aside0.mk (below_step (by repeat (first | (with_reducible first | exact HB.out | apply below_alloc | apply pw_below_drewN | apply below_drew1 | refine below_set ?_ GE115.out | refine below_set ?_ GE118.out | refine below_set ?_ GE120.out | refine below_set ?_ GE124.out) | exact HB.out)) hb); clear BK115; clear BK118; clear BK120; clear BK124; clear HB; have BK115 := n0_; have BK118 := n1_; have BK120 := n2_; have BK124 := n3_; have HB := n4_; clear n0_ n1_ n2_ n3_ n4_; (try clear hb); (try clear hb2); (try clear hk); (try clear hi); have hczxfe8c1 : wxfe8c1.cell? ⟨gb124, 0, none⟩ = some (.int .i64 t121) := (blk_cell BK124.out 0).trans rfl; have hczxfe8c2 : wxfe8c1.cell? ⟨gb124, 1, none⟩ = some (.int .i64 t122) := (blk_cell BK124.out 1).trans rfl; have hfzxfe8c1 := blk_frozen BK124.out 0; have hfzxfe8c2 := blk_frozen BK124.out 1; have hczxfe8c3 : wxfe8c1.cell? ⟨gb118, 0, none⟩ = some (.int .i64 ((rd_T71 l0 x5_2).f0)) := (blk_cell BK118.out 0).trans rfl; have hczxfe8c4 : wxfe8c1.cell? ⟨gb118, 1, none⟩ = some (.int .i64 ((rd_T71 l0 x5_2).f1.f0)) := (blk_cell BK118.out 1).trans rfl; have hczxfe8c5 : wxfe8c1.cell? ⟨gb118, 2, none⟩ = some (.int .i64 ((rd_T71 l0 x5_2).f1.f1)) := (blk_cell BK118.out 2).trans rfl; have hczxfe8c6 : wxfe8c1.cell? ⟨gb118, 3, none⟩ = some (.int .i64 ((rd_T71 l0 x5_2).f2)) := (blk_cell BK118.out 3).trans rfl; have hfzxfe8c3 := blk_frozen BK118.out 0; have hfzxfe8c4 := blk_frozen BK118.out 1; have hfzxfe8c5 := blk_frozen BK118.out 2; have hfzxfe8c6 := blk_frozen BK118.out 3; have hczxfe8c7 : wxfe8c1.cell? ⟨gb115, 0, none⟩ = some (.int .i64 0) := (blk_cell BK115.out 0).trans rfl; have hczxfe8c8 : wxfe8c1.cell? ⟨gb115, 1, none⟩ = some (.int .i64 0) := (blk_cell BK115.out 1).trans rfl; have hczxfe8c9 : wxfe8c1.cell? ⟨gb115, 2, none⟩ = some (.int .i64 0) := (blk_cell BK115.out 2).trans rfl; have hczxfe8c10 : wxfe8c1.cell? ⟨gb115, 3, none⟩ = some (.int .i64 0) := (blk_cell BK115.out 3).trans rfl; have hfzxfe8c7 := blk_frozen BK115.out 0; have hfzxfe8c8 := blk_frozen BK115.out 1; have hfzxfe8c9 := blk_frozen BK115.out 2; have hfzxfe8c10 := blk_frozen BK115.out 3)); try go_wp2_with (first | ((with_reducible refine gate_dst (N := 7) rfl ?_); refine box_event ?hg (N := 7) ?hd (cs := #[.int .i64 0, .int .i64 0, .int .i64 0, .int .i64 0]) (t := 71) ?hr ?_; (case hd => rfl); (case hg => rfl); (case hr => first | (go_simp; done) | (go_simp; rfl)); intro gb120 hg wx7c5f1 hbox hb; have n0_ := Aside0.mk (blk_below (g := gb115) (o := .cells #[.int .i64 0, .int .i64 0, .int .i64 0, .int .i64 0] 71 (0, 0)) (by (with_reducible repeat (first | refine blk_drewN ?_ _ | refine blk_drew ?_ | refine blk_alloc ?_ _)); exact BK115.out) hb); have n1_ := Aside0.mk (blk_below (g := gb118) (o := .cells #[.int .i64 ((rd_T71 l0 x5_2).f0), .int .i64 ((rd_T71 l0 x5_2).f1.f0), .int .i64 ((rd_T71 l0 x5_2).f1.f1), .int .i64 ((rd_T71 l0 x5_2).f2)] 71 (0, 0)) (by (with_reducible repeat (first | refine blk_drewN ?_ _ | refine blk_drew ?_ | refine blk_alloc ?_ _)); exact BK118.out) hb); have n2_ := Aside0.mk (below_step (by repeat (first | (with_reducible first | exact HB.out | apply below_alloc | apply pw_below_drewN | apply below_drew1 | refine below_set ?_ GE115.out | refine below_set ?_ GE118.out) | exact HB.out)) hb); have n3_ := Aside0.mk (hbox); have n4_ := Aside0.mk ((by rw [hg]; exact (below_size (by repeat (first | (with_reducible first | exact HB.out | apply below_alloc | apply pw_below_drewN | apply below_drew1 | refine below_set ?_ GE115.out | refine below_set ?_ GE118.out) | exact HB.out))) : w.heap.size ≤ gb120)); have n5_ := Aside0.mk ((by rw [hg]; exact (below_size (by repeat (first | (with_reducible first | exact HB.out | apply below_alloc | apply pw_below_drewN | apply below_drew1 | refine below_set ?_ GE115.out | refine below_set ?_ GE118.out) | exact HB.out))) : w.heap.size ≤ gb120)); have n6_ := Aside0.mk ((by rw [hg]; exact Nat.ne_of_lt (blk_lt (g := gb115) (o := .cells #[.int .i64 0, .int .i64 0, .int .i64 0, .int .i64 0] 71 (0, 0)) (by (with_reducible repeat (first | refine blk_drewN ?_ _ | refine blk_drew ?_ | refine blk_alloc ?_ _)); exact BK115.out)) : gb115 ≠ gb120)); have n7_ := Aside0.mk ((by rw [hg]; exact Nat.ne_of_gt (blk_lt (g := gb115) (o := .cells #[.int .i64 0, .int .i64 0, .int .i64 0, .int .i64 0] 71 (0, 0)) (by (with_reducible repeat (first | refine blk_drewN ?_ _ | refine blk_drew ?_ | refine blk_alloc ?_ _)); exact BK115.out)) : gb120 ≠ gb115)); have n8_ := Aside0.mk ((by rw [hg]; exact Nat.ne_of_lt (blk_lt (g := gb118) (o := .cells #[.int .i64 ((rd_T71 l0 x5_2).f0), .int .i64 ((rd_T71 l0 x5_2).f1.f0), .int .i64 ((rd_T71 l0 x5_2).f1.f1), .int .i64 ((rd_T71 l0 x5_2).f2)] 71 (0, 0)) (by (with_reducible repeat (first | refine blk_drewN ?_ _ | refine blk_drew ?_ | refine blk_alloc ?_ _)); exact BK118.out)) : gb118 ≠ gb120)); have n9_ := Aside0.mk ((by rw [hg]; exact Nat.ne_of_gt (blk_lt (g := gb118) (o := .cells #[.int .i64 ((rd_T71 l0 x5_2).f0), .int .i64 ((rd_T71 l0 x5_2).f1.f0), .int .i64 ((rd_T71 l0 x5_2).f1.f1), .int .i64 ((rd_T71 l0 x5_2).f2)] 71 (0, 0)) (by (with_reducible repeat (first | refine blk_drewN ?_ _ | refine blk_drew ?_ | refine blk_alloc ?_ _)); exact BK118.out)) : gb120 ≠ gb118)); clear BK115; clear BK118; clear HB; have BK115 := n0_; have BK118 := n1_; have HB := n2_; have BK120 := n3_; have GW120 := n4_; have GE120 := n5_; have NB115_120 := n6_; have NB120_115 := n7_; have NB118_120 := n8_; have NB120_118 := n9_; clear n0_ n1_ n2_ n3_ n4_ n5_ n6_ n7_ n8_ n9_; clear hb hbox hg; have hnbx7c5f1 := NB120_115.out; have hncx7c5f1 := NB115_120.out; have hnbx7c5f2 := NB120_118.out; have hncx7c5f2 := NB118_120.out; have hczx7c5f1 : wx7c5f1.cell? ⟨gb120, 0, none⟩ = some (.int .i64 0) := (blk_cell BK120.out 0).trans rfl; have hczx7c5f2 : wx7c5f1.cell? ⟨gb120, 1, none⟩ = some (.int .i64 0) := (blk_cell BK120.out 1).trans rfl; have hczx7c5f3 : wx7c5f1.cell? ⟨gb120, 2, none⟩ = some (.int .i64 0) := (blk_cell BK120.out 2).trans rfl; have hczx7c5f4 : wx7c5f1.cell? ⟨gb120, 3, none⟩ = some (.int .i64 0) := (blk_cell BK120.out 3).trans rfl; have hfzx7c5f1 := blk_frozen BK120.out 0; have hfzx7c5f2 := blk_frozen BK120.out 1; have hfzx7c5f3 := blk_frozen BK120.out 2; have hfzx7c5f4 := blk_frozen BK120.out 3; have hnbx7c5f3 := NB118_115.out; have hncx7c5f3 := NB115_118.out; have hczx7c5f5 : wx7c5f1.cell? ⟨gb118, 0, none⟩ = some (.int .i64 ((rd_T71 l0 x5_2).f0)) := (blk_cell BK118.out 0).trans rfl; have hczx7c5f6 : wx7c5f1.cell? ⟨gb118, 1, none⟩ = some (.int .i64 ((rd_T71 l0 x5_2).f1.f0)) := (blk_cell BK118.out 1).trans rfl; have hczx7c5f7 : wx7c5f1.cell? ⟨gb118, 2, none⟩ = some (.int .i64 ((rd_T71 l0 x5_2).f1.f1)) := (blk_cell BK118.out 2).trans rfl; have hczx7c5f8 : wx7c5f1.cell? ⟨gb118, 3, none⟩ = some (.int .i64 ((rd_T71 l0 x5_2).f2)) := (blk_cell BK118.out 3).trans rfl; have hfzx7c5f5 := blk_frozen BK118.out 0; have hfzx7c5f6 := blk_frozen BK118.out 1; have hfzx7c5f7 := blk_frozen BK118.out 2; have hfzx7c5f8 := blk_frozen BK118.out 3) | (go_at_call 110; (with_reducible refine (plane_Toward.calls kj10 ((rd_T71 l0 x5_2).f1.f0) ((rd_T71 l0 x5_2).f1.f1) ((rd_T71 l0 (ji24)).f1.f0) ((rd_T71 l0 (ji24)).f1.f1) (wrap64 (a1 - ((rd_T71 l0 x5_2).f0))) (wrap64 (((rd_T71 l0 (ji24)).f0) - ((rd_T71 l0 x5_2).f0))) t121 t122 t123 _ A27.out).mono ?_); rintro e wx097a1 ⟨rfl, hb⟩; have n0_ := Aside0.mk (blk_below (g := gb115) (o := .cells #[.int .i64 0, .int .i64 0, .int .i64 0, .int .i64 0] 71 (0, 0)) (by (with_reducible repeat (first | refine blk_drewN ?_ _ | refine blk_drew ?_ | refine blk_alloc ?_ _)); refine blk_far ?_ NB115_120.out _; (with_reducible repeat (first | refine blk_drewN ?_ _ | refine blk_drew ?_ | refine blk_alloc ?_ _)); refine blk_far ?_ NB115_120.out _; (with_reducible repeat (first | refine blk_drewN ?_ _ | refine blk_drew ?_ | refine blk_alloc ?_ _)); refine blk_far ?_ NB115_120.out _; (with_reducible repeat (first | refine blk_drewN ?_ _ | refine blk_drew ?_ | refine blk_alloc ?_ _)); refine blk_far ?_ NB115_120.out _; (with_reducible repeat (first | refine blk_drewN ?_ _ | refine blk_drew ?_ | refine blk_alloc ?_ _)); exact BK115.out) hb); have n1_ := Aside0.mk (blk_below (g := gb118) (o := .cells #[.int .i64 ((rd_T71 l0 x5_2).f0), .int .i64 ((rd_T71 l0 x5_2).f1.f0), .int .i64 ((rd_T71 l0 x5_2).f1.f1), .int .i64 ((rd_T71 l0 x5_2).f2)] 71 (0, 0)) (by (with_reducible repeat (first | refine blk_drewN ?_ _ | refine blk_drew ?_ | refine blk_alloc ?_ _)); refine blk_far ?_ NB118_120.out _; (with_reducible repeat (first | refine blk_drewN ?_ _ | refine blk_drew ?_ | refine blk_alloc ?_ _)); refine blk_far ?_ NB118_120.out _; (with_reducible repeat (first | refine blk_drewN ?_ _ | refine blk_drew ?_ | refine blk_alloc ?_ _)); refine blk_far ?_ NB118_120.out _; (with_reducible repeat (first | refine blk_drewN ?_ _ | refine blk_drew ?_ | refine blk_alloc ?_ _)); refine blk_far ?_ NB118_120.out _; (with_reducible repeat (first | refine blk_drewN ?_ _ | refine blk_drew ?_ | refine blk_alloc ?_ _)); exact BK118.out) hb); have n2_ := Aside0.mk (blk_below (g := gb120) (o := .cells #[.int .i64 ((rd_T71 l0 (ji24)).f0), .int .i64 ((rd_T71 l0 (ji24)).f1.f0), .int .i64 ((rd_T71 l0 (ji24)).f1.f1), .int .i64 ((rd_T71 l0 (ji24)).f2)] 71 (0, 0)) (by (with_reducible repeat (first | refine blk_drewN ?_ _ | refine blk_drew ?_ | refine blk_alloc ?_ _)); refine blk_put (cs := #[.int .i64 ((rd_T71 l0 (ji24)).f0), .int .i64 ((rd_T71 l0 (ji24)).f1.f0), .int .i64 ((rd_T71 l0 (ji24)).f1.f1), .int .i64 0]) ?_ 3 _ rfl; (with_reducible repeat (first | refine blk_drewN ?_ _ | refine blk_drew ?_ | refine blk_alloc ?_ _)); refine blk_put (cs := #[.int .i64 ((rd_T71 l0 (ji24)).f0), .int .i64 ((rd_T71 l0 (ji24)).f1.f0), .int .i64 0, .int .i64 0]) ?_ 2 _ rfl; (with_reducible repeat (first | refine blk_drewN ?_ _ | refine blk_drew ?_ | refine blk_alloc ?_ _)); refine blk_put (cs := #[.int .i64 ((rd_T71 l0 (ji24)).f0), .int .i64 0, .int .i64 0, .int .i64 0]) ?_ 1 _ rfl; (with_reducible repeat (first | refine blk_drewN ?_ _ | refine blk_drew ?_ | refine blk_alloc ?_ _)); refine blk_put (cs := #[.int .i64 0, .int .i64 0, .int .i64 0, .int .i64 0]) ?_ 0 _ rfl; (with_reducible repeat (first | refine blk_drewN ?_ _ | refine blk_drew ?_ | refine blk_alloc ?_ _)); exact BK120.out) hb); have n3_ := Aside0.mk (below_step (by repeat (first | (with_reducible first | exact HB.out | apply below_alloc | apply pw_below_drewN | apply below_drew1 | refine below_set ?_ GE115.out | refine below_set ?_ GE118.out | refine below_set ?_ GE120.out) | exact HB.out)) hb); clear BK115; clear BK118; clear BK120; clear HB; have BK115 := n0_; have BK118 := n1_; have BK120 := n2_; have HB := n3_; clear n0_ n1_ n2_ n3_; (try clear hb); (try clear hb2); (try clear hk); (try clear hi)) | ((with_reducible refine gate_dst (N := 10) rfl ?_); refine box_event ?hg (N := 10) ?hd (cs := #[.int .i64 0, .int .i64 0]) (t := 36) ?hr ?_; (case hd => rfl); (case hg => rfl); (case hr => first | (go_simp; done) | (go_simp; rfl)); intro gb124 hg wx3d9d1 hbox hb; have n0_ := Aside0.mk (blk_below (g := gb115) (o := .cells #[.int .i64 0, .int .i64 0, .int .i64 0, .int .i64 0] 71 (0, 0)) (by (with_reducible repeat (first | refine blk_drewN ?_ _ | refine blk_drew ?_ | refine blk_alloc ?_ _)); exact BK115.out) hb); have n1_ := Aside0.mk (blk_below (g := gb118) (o := .cells #[.int .i64 ((rd_T71 l0 x5_2).f0), .int .i64 ((rd_T71 l0 x5_2).f1.f0), .int .i64 ((rd_T71 l0 x5_2).f1.f1), .int .i64 ((rd_T71 l0 x5_2).f2)] 71 (0, 0)) (by (with_reducible repeat (first | refine blk_drewN ?_ _ | refine blk_drew ?_ | refine blk_alloc ?_ _)); exact BK118.out) hb); have n2_ := Aside0.mk (blk_below (g := gb120) (o := .cells #[.int .i64 ((rd_T71 l0 (ji24)).f0), .int .i64 ((rd_T71 l0 (ji24)).f1.f0), .int .i64 ((rd_T71 l0 (ji24)).f1.f1), .int .i64 ((rd_T71 l0 (ji24)).f2)] 71 (0, 0)) (by (with_reducible repeat (first | refine blk_drewN ?_ _ | refine blk_drew ?_ | refine blk_alloc ?_ _)); exact BK120.out) hb); have n3_ := Aside0.mk (below_step (by repeat (first | (with_reducible first | exact HB.out | apply below_alloc | apply pw_below_drewN | apply below_drew1 | refine below_set ?_ GE115.out | refine below_set ?_ GE118.out | refine below_set ?_ GE120.out) | exact HB.out)) hb); have n4_ := Aside0.mk (hbox); have n5_ := Aside0.mk ((by rw [hg]; exact (below_size (by repeat (first | (with_reducible first | exact HB.out | apply below_alloc | apply pw_below_drewN | apply below_drew1 | refine below_set ?_ GE115.out | refine below_set ?_ GE118.out | refine below_set ?_ GE120.out) | exact HB.out))) : w.heap.size ≤ gb124)); have n6_ := Aside0.mk ((by rw [hg]; exact (below_size (by repeat (first | (with_reducible first | exact HB.out | apply below_alloc | apply pw_below_drewN | apply below_drew1 | refine below_set ?_ GE115.out | refine below_set ?_ GE118.out | refine below_set ?_ GE120.out) | exact HB.out))) : w.heap.size ≤ gb124)); have n7_ := Aside0.mk ((by rw [hg]; exact Nat.ne_of_lt (blk_lt (g := gb115) (o := .cells #[.int .i64 0, .int .i64 0, .int .i64 0, .int .i64 0] 71 (0, 0)) (by (with_reducible repeat (first | refine blk_drewN ?_ _ | refine blk_drew ?_ | refine blk_alloc ?_ _)); exact BK115.out)) : gb115 ≠ gb124)); have n8_ := Aside0.mk ((by rw [hg]; exact Nat.ne_of_gt (blk_lt (g := gb115) (o := .cells #[.int .i64 0, .int .i64 0, .int .i64 0, .int .i64 0] 71 (0, 0)) (by (with_reducible repeat (first | refine blk_drewN ?_ _ | refine blk_drew ?_ | refine blk_alloc ?_ _)); exact BK115.out)) : gb124 ≠ gb115)); have n9_ := Aside0.mk ((by rw [hg]; exact Nat.ne_of_lt (blk_lt (g := gb118) (o := .cells #[.int .i64 ((rd_T71 l0 x5_2).f0), .int .i64 ((rd_T71 l0 x5_2).f1.f0), .int .i64 ((rd_T71 l0 x5_2).f1.f1), .int .i64 ((rd_T71 l0 x5_2).f2)] 71 (0, 0)) (by (with_reducible repeat (first | refine blk_drewN ?_ _ | refine blk_drew ?_ | refine blk_alloc ?_ _)); exact BK118.out)) : gb118 ≠ gb124)); have n10_ := Aside0.mk ((by rw [hg]; exact Nat.ne_of_gt (blk_lt (g := gb118) (o := .cells #[.int .i64 ((rd_T71 l0 x5_2).f0), .int .i64 ((rd_T71 l0 x5_2).f1.f0), .int .i64 ((rd_T71 l0 x5_2).f1.f1), .int .i64 ((rd_T71 l0 x5_2).f2)] 71 (0, 0)) (by (with_reducible repeat (first | refine blk_drewN ?_ _ | refine blk_drew ?_ | refine blk_alloc ?_ _)); exact BK118.out)) : gb124 ≠ gb118)); have n11_ := Aside0.mk ((by rw [hg]; exact Nat.ne_of_lt (blk_lt (g := gb120) (o := .cells #[.int .i64 ((rd_T71 l0 (ji24)).f0), .int .i64 ((rd_T71 l0 (ji24)).f1.f0), .int .i64 ((rd_T71 l0 (ji24)).f1.f1), .int .i64 ((rd_T71 l0 (ji24)).f2)] 71 (0, 0)) (by (with_reducible repeat (first | refine blk_drewN ?_ _ | refine blk_drew ?_ | refine blk_alloc ?_ _)); exact BK120.out)) : gb120 ≠ gb124)); have n12_ := Aside0.mk ((by rw [hg]; exact Nat.ne_of_gt (blk_lt (g := gb120) (o := .cells #[.int .i64 ((rd_T71 l0 (ji24)).f0), .int .i64 ((rd_T71 l0 (ji24)).f1.f0), .int .i64 ((rd_T71 l0 (ji24)).f1.f1), .int .i64 ((rd_T71 l0 (ji24)).f2)] 71 (0, 0)) (by (with_reducible repeat (first | refine blk_drewN ?_ _ | refine blk_drew ?_ | refine blk_alloc ?_ _)); exact BK120.out)) : gb124 ≠ gb120)); clear BK115; clear BK118; clear BK120; clear HB; have BK115 := n0_; have BK118 := n1_; have BK120 := n2_; have HB := n3_; have BK124 := n4_; have GW124 := n5_; have GE124 := n6_; have NB115_124 := n7_; have NB124_115 := n8_; have NB118_124 := n9_; have NB124_118 := n10_; have NB120_124 := n11_; have NB124_120 := n12_; clear n0_ n1_ n2_ n3_ n4_ n5_ n6_ n7_ n8_ n9_ n10_ n11_ n12_; clear hb hbox hg; have hnbx3d9d1 := NB124_115.out; have hncx3d9d1 := NB115_124.out; have hnbx3d9d2 := NB124_118.out; have hncx3d9d2 := NB118_124.out; have hnbx3d9d3 := NB124_120.out; have hncx3d9d3 := NB120_124.out; have hczx3d9d1 : wx3d9d1.cell? ⟨gb124, 0, none⟩ = some (.int .i64 0) := (blk_cell BK124.out 0).trans rfl; have hczx3d9d2 : wx3d9d1.cell? ⟨gb124, 1, none⟩ = some (.int .i64 0) := (blk_cell BK124.out 1).trans rfl; have hfzx3d9d1 := blk_frozen BK124.out 0; have hfzx3d9d2 := blk_frozen BK124.out 1; have hczx3d9d3 : wx3d9d1.cell? ⟨gb120, 0, none⟩ = some (.int .i64 ((rd_T71 l0 (ji24)).f0)) := (blk_cell BK120.out 0).trans rfl; have hczx3d9d4 : wx3d9d1.cell? ⟨gb120, 1, none⟩ = some (.int .i64 ((rd_T71 l0 (ji24)).f1.f0)) := (blk_cell BK120.out 1).trans rfl; have hczx3d9d5 : wx3d9d1.cell? ⟨gb120, 2, none⟩ = some (.int .i64 ((rd_T71 l0 (ji24)).f1.f1)) := (blk_cell BK120.out 2).trans rfl; have hczx3d9d6 : wx3d9d1.cell? ⟨gb120, 3, none⟩ = some (.int .i64 ((rd_T71 l0 (ji24)).f2)) := (blk_cell BK120.out 3).trans rfl; have hfzx3d9d3 := blk_frozen BK120.out 0; have hfzx3d9d4 := blk_frozen BK120.out 1; have hfzx3d9d5 := blk_frozen BK120.out 2; have hfzx3d9d6 := blk_frozen BK120.out 3; have hczx3d9d7 : wx3d9d1.cell? ⟨gb118, 0, none⟩ = some (.int .i64 ((rd_T71 l0 x5_2).f0)) := (blk_cell BK118.out 0).trans rfl; have hczx3d9d8 : wx3d9d1.cell? ⟨gb118, 1, none⟩ = some (.int .i64 ((rd_T71 l0 x5_2).f1.f0)) := (blk_cell BK118.out 1).trans rfl; have hczx3d9d9 : wx3d9d1.cell? ⟨gb118, 2, none⟩ = some (.int .i64 ((rd_T71 l0 x5_2).f1.f1)) := (blk_cell BK118.out 2).trans rfl; have hczx3d9d10 : wx3d9d1.cell? ⟨gb118, 3, none⟩ = some (.int .i64 ((rd_T71 l0 x5_2).f2)) := (blk_cell BK118.out 3).trans rfl; have hfzx3d9d7 := blk_frozen BK118.out 0; have hfzx3d9d8 := blk_frozen BK118.out 1; have hfzx3d9d9 := blk_frozen BK118.out 2; have hfzx3d9d10 := blk_frozen BK118.out 3) | (go_at_call 111; (with_reducible refine (num_DivDown.calls kj10 (wrap64 ((wrap64 (((rd_T71 l0 (ji24)).f2) - ((rd_T71 l0 x5_2).f2))) * (wrap64 (a1 - ((rd_T71 l0 x5_2).f0))))) (wrap64 (((rd_T71 l0 (ji24)).f0) - ((rd_T71 l0 x5_2).f0))) t125 t126 _ A28.out).mono ?_); rintro e wxfe8c1 ⟨rfl, hb⟩; have n0_ := Aside0.mk (blk_below (g := gb115) (o := .cells #[.int .i64 0, .int .i64 0, .int .i64 0, .int .i64 0] 71 (0, 0)) (by (with_reducible repeat (first | refine blk_drewN ?_ _ | refine blk_drew ?_ | refine blk_alloc ?_ _)); refine blk_far ?_ NB115_124.out _; (with_reducible repeat (first | refine blk_drewN ?_ _ | refine blk_drew ?_ | refine blk_alloc ?_ _)); refine blk_far ?_ NB115_124.out _; (with_reducible repeat (first | refine blk_drewN ?_ _ | refine blk_drew ?_ | refine blk_alloc ?_ _)); exact BK115.out) hb); have n1_ := Aside0.mk (blk_below (g := gb118) (o := .cells #[.int .i64 ((rd_T71 l0 x5_2).f0), .int .i64 ((rd_T71 l0 x5_2).f1.f0), .int .i64 ((rd_T71 l0 x5_2).f1.f1), .int .i64 ((rd_T71 l0 x5_2).f2)] 71 (0, 0)) (by (with_reducible repeat (first | refine blk_drewN ?_ _ | refine blk_drew ?_ | refine blk_alloc ?_ _)); refine blk_far ?_ NB118_124.out _; (with_reducible repeat (first | refine blk_drewN ?_ _ | refine blk_drew ?_ | refine blk_alloc ?_ _)); refine blk_far ?_ NB118_124.out _; (with_reducible repeat (first | refine blk_drewN ?_ _ | refine blk_drew ?_ | refine blk_alloc ?_ _)); exact BK118.out) hb); have n2_ := Aside0.mk (blk_below (g := gb120) (o := .cells #[.int .i64 ((rd_T71 l0 (ji24)).f0), .int .i64 ((rd_T71 l0 (ji24)).f1.f0), .int .i64 ((rd_T71 l0 (ji24)).f1.f1), .int .i64 ((rd_T71 l0 (ji24)).f2)] 71 (0, 0)) (by (with_reducible repeat (first | refine blk_drewN ?_ _ | refine blk_drew ?_ | refine blk_alloc ?_ _)); refine blk_far ?_ NB120_124.out _; (with_reducible repeat (first | refine blk_drewN ?_ _ | refine blk_drew ?_ | refine blk_alloc ?_ _)); refine blk_far ?_ NB120_124.out _; (with_reducible repeat (first | refine blk_drewN ?_ _ | refine blk_drew ?_ | refine blk_alloc ?_ _)); exact BK120.out) hb); have n3_ := Aside0.mk (blk_below (g := gb124) (o := .cells #[.int .i64 t121, .int .i64 t122] 36 (0, 0)) (by (with_reducible repeat (first | refine blk_drewN ?_ _ | refine blk_drew ?_ | refine blk_alloc ?_ _)); refine blk_put (cs := #[.int .i64 t121, .int .i64 0]) ?_ 1 _ rfl; (with_reducible repeat (first | refine blk_drewN ?_ _ | refine blk_drew ?_ | refine blk_alloc ?_ _)); refine blk_put (cs := #[.int .i64 0, .int .i64 0]) ?_ 0 _ rfl; (with_reducible repeat (first | refine blk_drewN ?_ _ | refine blk_drew ?_ | refine blk_alloc ?_ _)); exact BK124.out) hb); have n4_ := Aside0.mk (below_step (by repeat (first | (with_reducible first | exact HB.out | apply below_alloc | apply pw_below_drewN | apply below_drew1 | refine below_set ?_ GE115.out | refine below_set ?_ GE118.out | refine below_set ?_ GE120.out | refine below_set ?_ GE124.out) | exact HB.out)) hb); clear BK115; clear BK118; clear BK120; clear BK124; clear HB; have BK115 := n0_; have BK118 := n1_; have BK120 := n2_; have BK124 := n3_; have HB := n4_; clear n0_ n1_ n2_ n3_ n4_; (try clear hb); (try clear hb2); (try clear hk); (try clear hi); have hczxfe8c1 : wxfe8c1.cell? ⟨gb124, 0, none⟩ = some (.int .i64 t121) := (blk_cell BK124.out 0).trans rfl; have hczxfe8c2 : wxfe8c1.cell? ⟨gb124, 1, none⟩ = some (.int .i64 t122) := (blk_cell BK124.out 1).trans rfl; have hfzxfe8c1 := blk_frozen BK124.out 0; have hfzxfe8c2 := blk_frozen BK124.out 1; have hczxfe8c3 : wxfe8c1.cell? ⟨gb118, 0, none⟩ = some (.int .i64 ((rd_T71 l0 x5_2).f0)) := (blk_cell BK118.out 0).trans rfl; have hczxfe8c4 : wxfe8c1.cell? ⟨gb118, 1, none⟩ = some (.int .i64 ((rd_T71 l0 x5_2).f1.f0)) := (blk_cell BK118.out 1).trans rfl; have hczxfe8c5 : wxfe8c1.cell? ⟨gb118, 2, none⟩ = some (.int .i64 ((rd_T71 l0 x5_2).f1.f1)) := (blk_cell BK118.out 2).trans rfl; have hczxfe8c6 : wxfe8c1.cell? ⟨gb118, 3, none⟩ = some (.int .i64 ((rd_T71 l0 x5_2).f2)) := (blk_cell BK118.out 3).trans rfl; have hfzxfe8c3 := blk_frozen BK118.out 0; have hfzxfe8c4 := blk_frozen BK118.out 1; have hfzxfe8c5 := blk_frozen BK118.out 2; have hfzxfe8c6 := blk_frozen BK118.out 3; have hczxfe8c7 : wxfe8c1.cell? ⟨gb115, 0, none⟩ = some (.int .i64 0) := (blk_cell BK115.out 0).trans rfl; have hczxfe8c8 : wxfe8c1.cell? ⟨gb115, 1, none⟩ = some (.int .i64 0) := (blk_cell BK115.out 1).trans rfl; have hczxfe8c9 : wxfe8c1.cell? ⟨gb115, 2, none⟩ = some (.int .i64 0) := (blk_cell BK115.out 2).trans rfl; have hczxfe8c10 : wxfe8c1.cell? ⟨gb115, 3, none⟩ = some (.int .i64 0) := (blk_cell BK115.out 3).trans rfl; have hfzxfe8c7 := blk_frozen BK115.out 0; have hfzxfe8c8 := blk_frozen BK115.out 1; have hfzxfe8c9 := blk_frozen BK115.out 2; have hfzxfe8c10 := blk_frozen BK115.out 3)))
               refine bodyPost_ret (results_cell_row rfl _ _ gb115 71 #[.int .i64 a1, .int .i64 t121, .int .i64 t122, .int .i64 (wrap64 (((rd_T71 l0 x5_2).f2) + t125))] (0, 0) _ rfl (by (with_reducible repeat (first | refine blk_drewN ?_ _ | refine blk_drew ?_ | refine blk_alloc ?_ _)); refine blk_put (cs := #[.int .i64 a1, .int .i64 t121, .int .i64 t122, .int .i64 0]) ?_ 3 _ rfl; (with_reducible repeat (first | refine blk_drewN ?_ _ | refine blk_drew ?_ | refine blk_alloc ?_ _)); refine blk_put (cs := #[.int .i64 a1, .int .i64 t121, .int .i64 0, .int .i64 0]) ?_ 2 _ rfl; (with_reducible repeat (first | refine blk_drewN ?_ _ | refine blk_drew ?_ | refine blk_alloc ?_ _)); refine blk_put (cs := #[.int .i64 a1, .int .i64 0, .int .i64 0, .int .i64 0]) ?_ 1 _ rfl; (with_reducible repeat (first | refine blk_drewN ?_ _ | refine blk_drew ?_ | refine blk_alloc ?_ _)); refine blk_put (cs := #[.int .i64 0, .int .i64 0, .int .i64 0, .int .i64 0]) ?_ 0 _ rfl; (with_reducible repeat (first | refine blk_drewN ?_ _ | refine blk_drew ?_ | refine blk_alloc ?_ _)); exact BK115.out) Try.underlying71 rfl (by kernel_rfl)) rfl ?_
               exact ⟨by first | rfl | (simp [errW_none, errW_some] <;> rfl) | (simp only [← hji24]; first | rfl | (simp [errW_none, errW_some] <;> rfl)) | (simp [*, errW_none, errW_some] <;> rfl), by repeat (first | (with_reducible first | exact HB.out | apply below_alloc | apply pw_below_drewN | apply below_drew1 | refine below_set ?_ GE115.out | refine below_set ?_ GE118.out | refine below_set ?_ GE120.out | refine below_set ?_ GE124.out) | exact HB.out)⟩
             · rw [if_neg c26] at H
               exact absurd H (by simp)
           · rw [if_neg c25] at H
             exact absurd H (by simp)
     · rw [if_neg c10] at H
       exact absurd H (by simp)
   · rw [if_neg c9] at H
     exact absurd H (by simp)

/-! ### fly_At: function 32 -/
def fly_At.f (k : Nat) (l0 : List (S71)) (a1 : Int) : Option (Int × Int × Int × Int × Int) := (fly_Check.f k l0).bind fun t128 => (if t128 = 0 then (if 0 < (l0.length : Int) then (if a1 < ((rd_T71 l0 0).f0) then (some (0, 0, 0, 0, 12)) else (if 0 ≤ (wrap64 ((l0.length : Int) - 1)) then (if (wrap64 ((l0.length : Int) - 1)) < (l0.length : Int) then (if a1 > ((rd_T71 l0 (wrap64 ((l0.length : Int) - 1))).f0) then (some (0, 0, 0, 0, 12)) else ((fly_Point.f k l0 a1).bind fun bt131 => (some (bt131.1, bt131.2.1, bt131.2.2.1, bt131.2.2.2, 0)))) else (none)) else (none))) else (none)) else (some (0, 0, 0, 0, t128)))
theorem fly_At.mono : ∀ a0 a1 k, LeO (fly_At.f k a0 a1) (fly_At.f (k + 1) a0 a1) := by
  intro a0 a1 k
  unfold fly_At.f
  repeat' first
      | (with_reducible exact fly_Check.mono _ _)
      | (with_reducible exact fly_Point.mono _ _ _)
      | (with_reducible exact LeO.refl _)
      | (with_reducible exact LeO.none _)
      | (with_reducible refine LeO.ite ?_ ?_)
      | (with_reducible refine LeO.bind ?_ (fun _ => ?_))
      | exact fly_Check.mono _ _
      | exact fly_Point.mono _ _ _
      | exact LeO.none _
      | refine LeO.ite ?_ ?_
      | refine LeO.bind ?_ (fun _ => ?_)
set_option maxHeartbeats 8000000 in
set_option maxRecDepth 100000 in
theorem fly_At.calls (k : Nat) (A0 : Option Addr) (c0 : Nat) (l0 : List (S71)) (a1 : Int) (r1 : Int) (r2 : Int) (r3 : Int) (r4 : Int) (r5 : Int) (w : World) (hr0 : Kd.C k71 w A0 l0.length l0) (hc0 : l0.length ≤ c0) (h : fly_At.f k l0 a1 = some (r1, r2, r3, r4, r5)) :
    Calls Try.prog 32 #[.slice A0 l0.length c0, .int .i64 a1] w fun e w' => e = .returned (.tuple #[.agg #[.int .i64 r1, .int .i64 r2, .int .i64 r3, .int .i64 r4], .int .i64 r5]) ∧ Below w.heap.size w w' := by
 have hu71 := Try.underlying71
 have HR0 := Aside0.mk hr0
 have HC0 := Aside0.mk hc0
 clear hr0 hc0
 have HB := Aside0.mk (Below.refl w.heap.size w)
 have H : ((fly_Check.f k l0).bind fun t128 => (if t128 = 0 then (if 0 < (l0.length : Int) then (if a1 < ((rd_T71 l0 0).f0) then (some (0, 0, 0, 0, 12)) else (if 0 ≤ (wrap64 ((l0.length : Int) - 1)) then (if (wrap64 ((l0.length : Int) - 1)) < (l0.length : Int) then (if a1 > ((rd_T71 l0 (wrap64 ((l0.length : Int) - 1))).f0) then (some (0, 0, 0, 0, 12)) else ((fly_Point.f k l0 a1).bind fun bt131 => (some (bt131.1, bt131.2.1, bt131.2.2.1, bt131.2.2.2, 0)))) else (none)) else (none))) else (none)) else (some (0, 0, 0, 0, t128)))) = some (r1, r2, r3, r4, r5) := h
 clear h
 replace H := Option.bind_eq_some_iff.mp H
 obtain ⟨t128, A30, H⟩ := H
 replace H : (if t128 = 0 then (if 0 < (l0.length : Int) then (if a1 < ((rd_T71 l0 0).f0) then (some (0, 0, 0, 0, 12)) else (if 0 ≤ (wrap64 ((l0.length : Int) - 1)) then (if (wrap64 ((l0.length : Int) - 1)) < (l0.length : Int) then (if a1 > ((rd_T71 l0 (wrap64 ((l0.length : Int) - 1))).f0) then (some (0, 0, 0, 0, 12)) else ((fly_Point.f k l0 a1).bind fun bt131 => (some (bt131.1, bt131.2.1, bt131.2.2.1, bt131.2.2.2, 0)))) else (none)) else (none))) else (none)) else (some (0, 0, 0, 0, t128))) = some (r1, r2, r3, r4, r5) := H
 have A3 := Aside0.mk A30
 clear A30
 refine Or.elim (Classical.em (t128 = 0)) (fun c4 => ?p2_) (fun c4 => ?n2_)
 case' p2_ =>
  rw [if_pos c4] at H
  have c4b0 : (t128 == 0) = true := beq_iff_eq.mpr c4
  have c4b1 : (t128 != 0) = false := bne_eq_false_iff_eq.mpr c4
  clear c4
  refine Or.elim (Classical.em (0 < (l0.length : Int))) (fun c5 => ?p3_) (fun c5 => ?n3_)
  case' p3_ =>
   rw [if_pos c5] at H
   have c5b0 : decide (0 < (l0.length : Int)) = true := decide_eq_true c5
   have c5b1 : decide (0 < l0.length) = true := decide_eq_true (by omega)
   clear c5
   refine Or.elim (Classical.em (a1 < ((rd_T71 l0 0).f0))) (fun c6 => ?p4_) (fun c6 => ?n4_)
   case' p4_ =>
    rw [if_pos c6] at H
    have c6b0 : decide (a1 < ((rd_T71 l0 0).f0)) = true := decide_eq_true c6
    clear c6
    simp only [Option.some.injEq, Prod.mk.injEq] at H
    obtain ⟨rfl, rfl, rfl, rfl, rfl⟩ := H
    have hm1_0 := Aside0.mk trivial
   case' n4_ =>
    rw [if_neg c6] at H
    have c6b0 : decide (a1 < ((rd_T71 l0 0).f0)) = false := decide_eq_false c6
    clear c6
    obtain ⟨ji10, hji10⟩ : ∃ j_ : Int, (wrap64 ((l0.length : Int) - 1)) = j_ := ⟨_, rfl⟩
    replace H : (if 0 ≤ (ji10) then (if (ji10) < (l0.length : Int) then (if a1 > ((rd_T71 l0 (ji10)).f0) then (some (0, 0, 0, 0, 12)) else ((fly_Point.f k l0 a1).bind fun bt131 => (some (bt131.1, bt131.2.1, bt131.2.2.1, bt131.2.2.2, 0)))) else (none)) else (none)) = some (r1, r2, r3, r4, r5) := by first | (rw [hji10] at H; exact H) | (simp only [hji10] at H ⊢; exact H)
    (try rw [hji10] at A3)
    have hji10w : (IntKind.i64.wrap ((l0.length : Int) - 1)) = ji10 := (i64_w _).trans hji10
    refine Or.elim (Classical.em (0 ≤ (ji10))) (fun c11 => ?p5_) (fun c11 => ?n5_)
    case' p5_ =>
     rw [if_pos c11] at H
     have c11b0 : decide (0 ≤ (ji10)) = true := decide_eq_true c11
     clear c11
     refine Or.elim (Classical.em ((ji10) < (l0.length : Int))) (fun c12 => ?p6_) (fun c12 => ?n6_)
     case' p6_ =>
      rw [if_pos c12] at H
      have c12b0 : decide ((ji10) < (l0.length : Int)) = true := decide_eq_true c12
      clear c12
      refine Or.elim (Classical.em (a1 > ((rd_T71 l0 (ji10)).f0))) (fun c13 => ?p7_) (fun c13 => ?n7_)
      case' p7_ =>
       rw [if_pos c13] at H
       have c13b0 : decide (((rd_T71 l0 (ji10)).f0) < a1) = true := decide_eq_true c13
       clear c13
       simp only [Option.some.injEq, Prod.mk.injEq] at H
       obtain ⟨rfl, rfl, rfl, rfl, rfl⟩ := H
       have hm1_1 := Aside0.mk trivial
      case' n7_ =>
       rw [if_neg c13] at H
       have c13b0 : decide (((rd_T71 l0 (ji10)).f0) < a1) = false := decide_eq_false c13
       clear c13
       replace H := Option.bind_eq_some_iff.mp H
       obtain ⟨⟨t131, t132, t133, t134⟩, A170, H⟩ := H
       replace H : (some (t131, t132, t133, t134, 0)) = some (r1, r2, r3, r4, r5) := H
       have A17 := Aside0.mk A170
       clear A170
       simp only [Option.some.injEq, Prod.mk.injEq] at H
       obtain ⟨rfl, rfl, rfl, rfl, rfl⟩ := H
       have hm1_2 := Aside0.mk trivial
     case' n6_ =>
      rw [if_neg c12] at H
      exact absurd H (by simp)
    case' n5_ =>
     rw [if_neg c11] at H
     exact absurd H (by simp)
  case' n3_ =>
   rw [if_neg c5] at H
   exact absurd H (by simp)
 case' n2_ =>
  rw [if_neg c4] at H
  have c4b0 : (t128 == 0) = false := beq_eq_false_iff_ne.mpr c4
  have c4b1 : (t128 != 0) = true := bne_iff_ne.mpr c4
  simp only [Option.some.injEq, Prod.mk.injEq] at H
  obtain ⟨rfl, rfl, rfl, rfl, rfl⟩ := H
  have hm1_0 := Aside0.mk trivial
 all_goals
  go_enter Try.func32, Try.ntmps32
  go_wp2_with (first | ((with_reducible refine gate_dst (N := 4) rfl ?_); refine box_event ?hg (N := 4) ?hd (cs := #[.int .i64 0, .int .i64 0, .int .i64 0, .int .i64 0]) (t := 71) ?hr ?_; (case hd => rfl); (case hg => rfl); (case hr => first | (go_simp; done) | (go_simp; rfl)); intro gb127 hg wx435f1 hbox hb; have n0_ := Aside0.mk (below_step (by repeat (first | (with_reducible first | exact HB.out | apply below_alloc | apply pw_below_drewN | apply below_drew1) | exact HB.out)) hb); have n1_ := Aside0.mk (hbox); have n2_ := Aside0.mk ((by rw [hg]; exact (below_size (by repeat (first | (with_reducible first | exact HB.out | apply below_alloc | apply pw_below_drewN | apply below_drew1) | exact HB.out))) : w.heap.size ≤ gb127)); have n3_ := Aside0.mk ((by rw [hg]; exact (below_size (by repeat (first | (with_reducible first | exact HB.out | apply below_alloc | apply pw_below_drewN | apply below_drew1) | exact HB.out))) : w.heap.size ≤ gb127)); clear HB; have HB := n0_; have BK127 := n1_; have GW127 := n2_; have GE127 := n3_; clear n0_ n1_ n2_ n3_; clear hb hbox hg) | ((with_reducible refine gate_callee (f := 76) rfl ?_); refine goesL_ (some 8) rfl rfl Try.func76 (by kernel_rfl) rfl #[.slice A0 l0.length c0] rfl (by (try simp only [List.map_toArray, List.map_cons, List.map_nil]); first | done | rfl | (simp only [List.length_drop, List.length_take]; rfl)) ?_; (with_reducible refine (fly_Check.calls k _ _ l0 t128 _ ?side1 ?side2 A3.out).mono ?_); (case side1 => repeat (first | exact (Kd.C_below HR0.out HB.out) | (with_reducible refine Kd.C_alloc ?_ _) | (with_reducible refine Kd.C_drewN ?_ _) | (with_reducible refine Kd.C_drew ?_))); (case side2 => exact HC0.out); rintro e wx21791 ⟨rfl, hb⟩; refine ⟨_, rfl, ?_⟩; have n0_ := Aside0.mk (blk_below (g := gb127) (o := .cells #[.int .i64 0, .int .i64 0, .int .i64 0, .int .i64 0] 71 (0, 0)) (by (with_reducible repeat (first | refine blk_drewN ?_ _ | refine blk_drew ?_ | refine blk_alloc ?_ _)); exact BK127.out) hb); have n1_ := Aside0.mk (below_step (by repeat (first | (with_reducible first | exact HB.out | apply below_alloc | apply pw_below_drewN | apply below_drew1 | refine below_set ?_ GE127.out) | exact HB.out)) hb); clear BK127; clear HB; have BK127 := n0_; have HB := n1_; clear n0_ n1_; (try clear hb); (try clear hb2); (try clear hk); (try clear hi); have p129 : 0 ≤ (0 : Int) := (by omega); have q129 : 0 < (l0.length : Int) := of_decide_eq_true (by first | (with_reducible assumption) | assumption); obtain ⟨ad129, e129, hx129_0, hx129_1, hx129_2, hx129_3⟩ := at_T71 HR0.out 0 p129 q129; cases e129; have qi129 : (0 < l0.length) = True := eq_true (by omega); (try rw [show ((0 : Int)).toNat = 0 from rfl] at hx129_0); (try rw [show 0 * 4 = 0 from rfl] at hx129_0); (try rw [Addr.add_zero'] at hx129_0); (try rw [show ((0 : Int)).toNat = 0 from rfl] at hx129_1); (try rw [show 0 * 4 = 0 from rfl] at hx129_1); (try rw [Addr.add_zero'] at hx129_1); (try rw [show ((0 : Int)).toNat = 0 from rfl] at hx129_2); (try rw [show 0 * 4 = 0 from rfl] at hx129_2); (try rw [Addr.add_zero'] at hx129_2); (try rw [show ((0 : Int)).toNat = 0 from rfl] at hx129_3); (try rw [show 0 * 4 = 0 from rfl] at hx129_3); (try rw [Addr.add_zero'] at hx129_3); replace hx129_0 := (HB.out.cell (World.block_lt_of_cell? w _ hx129_0)).trans hx129_0; replace hx129_1 := (HB.out.cell (World.block_lt_of_cell? w _ hx129_1)).trans hx129_1; replace hx129_2 := (HB.out.cell (World.block_lt_of_cell? w _ hx129_2)).trans hx129_2; replace hx129_3 := (HB.out.cell (World.block_lt_of_cell? w _ hx129_3)).trans hx129_3; replace p129 := eq_true p129; replace q129 := eq_true q129; have p130 : 0 ≤ ((ji10) : Int) := of_decide_eq_true (by first | (with_reducible assumption) | assumption); have q130 : (ji10) < (l0.length : Int) := of_decide_eq_true (by first | (with_reducible assumption) | assumption); obtain ⟨ad130, e130, hx130_0, hx130_1, hx130_2, hx130_3⟩ := at_T71 HR0.out (ji10) p130 q130; obtain rfl : ad129 = ad130 := (by injection e130); replace hx130_0 := (HB.out.cell (World.block_lt_of_cell? w _ hx130_0)).trans hx130_0; replace hx130_1 := (HB.out.cell (World.block_lt_of_cell? w _ hx130_1)).trans hx130_1; replace hx130_2 := (HB.out.cell (World.block_lt_of_cell? w _ hx130_2)).trans hx130_2; replace hx130_3 := (HB.out.cell (World.block_lt_of_cell? w _ hx130_3)).trans hx130_3; replace p130 := eq_true p130; replace q130 := eq_true q130; have hczx21791 : wx21791.cell? ⟨gb127, 0, none⟩ = some (.int .i64 0) := (blk_cell BK127.out 0).trans rfl; have hczx21792 : wx21791.cell? ⟨gb127, 1, none⟩ = some (.int .i64 0) := (blk_cell BK127.out 1).trans rfl; have hczx21793 : wx21791.cell? ⟨gb127, 2, none⟩ = some (.int .i64 0) := (blk_cell BK127.out 2).trans rfl; have hczx21794 : wx21791.cell? ⟨gb127, 3, none⟩ = some (.int .i64 0) := (blk_cell BK127.out 3).trans rfl; have hfzx21791 := blk_frozen BK127.out 0; have hfzx21792 := blk_frozen BK127.out 1; have hfzx21793 := blk_frozen BK127.out 2; have hfzx21794 := blk_frozen BK127.out 3) | ((with_reducible refine gate_callee (f := 76) rfl ?_); refine goesL_ (some 8) rfl rfl Try.func76 (by kernel_rfl) rfl #[.slice A0 l0.length c0] rfl (by (try simp only [List.map_toArray, List.map_cons, List.map_nil]); first | done | rfl | (simp only [List.length_drop, List.length_take]; rfl)) ?_; (with_reducible refine (fly_Check.calls k _ _ l0 t128 _ ?side1 ?side2 A3.out).mono ?_); (case side1 => repeat (first | exact (Kd.C_below HR0.out HB.out) | (with_reducible refine Kd.C_alloc ?_ _) | (with_reducible refine Kd.C_drewN ?_ _) | (with_reducible refine Kd.C_drew ?_))); (case side2 => exact HC0.out); rintro e wxd2c51 ⟨rfl, hb⟩; refine ⟨_, rfl, ?_⟩; have n0_ := Aside0.mk (blk_below (g := gb127) (o := .cells #[.int .i64 0, .int .i64 0, .int .i64 0, .int .i64 0] 71 (0, 0)) (by (with_reducible repeat (first | refine blk_drewN ?_ _ | refine blk_drew ?_ | refine blk_alloc ?_ _)); exact BK127.out) hb); have n1_ := Aside0.mk (below_step (by repeat (first | (with_reducible first | exact HB.out | apply below_alloc | apply pw_below_drewN | apply below_drew1 | refine below_set ?_ GE127.out) | exact HB.out)) hb); clear BK127; clear HB; have BK127 := n0_; have HB := n1_; clear n0_ n1_; (try clear hb); (try clear hb2); (try clear hk); (try clear hi); have p129 : 0 ≤ (0 : Int) := (by omega); have q129 : 0 < (l0.length : Int) := of_decide_eq_true (by first | (with_reducible assumption) | assumption); obtain ⟨ad129, e129, hx129_0, hx129_1, hx129_2, hx129_3⟩ := at_T71 HR0.out 0 p129 q129; cases e129; have qi129 : (0 < l0.length) = True := eq_true (by omega); (try rw [show ((0 : Int)).toNat = 0 from rfl] at hx129_0); (try rw [show 0 * 4 = 0 from rfl] at hx129_0); (try rw [Addr.add_zero'] at hx129_0); (try rw [show ((0 : Int)).toNat = 0 from rfl] at hx129_1); (try rw [show 0 * 4 = 0 from rfl] at hx129_1); (try rw [Addr.add_zero'] at hx129_1); (try rw [show ((0 : Int)).toNat = 0 from rfl] at hx129_2); (try rw [show 0 * 4 = 0 from rfl] at hx129_2); (try rw [Addr.add_zero'] at hx129_2); (try rw [show ((0 : Int)).toNat = 0 from rfl] at hx129_3); (try rw [show 0 * 4 = 0 from rfl] at hx129_3); (try rw [Addr.add_zero'] at hx129_3); replace hx129_0 := (HB.out.cell (World.block_lt_of_cell? w _ hx129_0)).trans hx129_0; replace hx129_1 := (HB.out.cell (World.block_lt_of_cell? w _ hx129_1)).trans hx129_1; replace hx129_2 := (HB.out.cell (World.block_lt_of_cell? w _ hx129_2)).trans hx129_2; replace hx129_3 := (HB.out.cell (World.block_lt_of_cell? w _ hx129_3)).trans hx129_3; replace p129 := eq_true p129; replace q129 := eq_true q129; have p130 : 0 ≤ ((ji10) : Int) := of_decide_eq_true (by first | (with_reducible assumption) | assumption); have q130 : (ji10) < (l0.length : Int) := of_decide_eq_true (by first | (with_reducible assumption) | assumption); obtain ⟨ad130, e130, hx130_0, hx130_1, hx130_2, hx130_3⟩ := at_T71 HR0.out (ji10) p130 q130; obtain rfl : ad129 = ad130 := (by injection e130); replace hx130_0 := (HB.out.cell (World.block_lt_of_cell? w _ hx130_0)).trans hx130_0; replace hx130_1 := (HB.out.cell (World.block_lt_of_cell? w _ hx130_1)).trans hx130_1; replace hx130_2 := (HB.out.cell (World.block_lt_of_cell? w _ hx130_2)).trans hx130_2; replace hx130_3 := (HB.out.cell (World.block_lt_of_cell? w _ hx130_3)).trans hx130_3; replace p130 := eq_true p130; replace q130 := eq_true q130) | ((with_reducible refine gate_callee (f := 76) rfl ?_); refine goesL_ (some 8) rfl rfl Try.func76 (by kernel_rfl) rfl #[.slice A0 l0.length c0] rfl (by (try simp only [List.map_toArray, List.map_cons, List.map_nil]); first | done | rfl | (simp only [List.length_drop, List.length_take]; rfl)) ?_; (with_reducible refine (fly_Check.calls k _ _ l0 t128 _ ?side1 ?side2 A3.out).mono ?_); (case side1 => repeat (first | exact (Kd.C_below HR0.out HB.out) | (with_reducible refine Kd.C_alloc ?_ _) | (with_reducible refine Kd.C_drewN ?_ _) | (with_reducible refine Kd.C_drew ?_))); (case side2 => exact HC0.out); rintro e wx9f6a1 ⟨rfl, hb⟩; refine ⟨_, rfl, ?_⟩; have n0_ := Aside0.mk (blk_below (g := gb127) (o := .cells #[.int .i64 0, .int .i64 0, .int .i64 0, .int .i64 0] 71 (0, 0)) (by (with_reducible repeat (first | refine blk_drewN ?_ _ | refine blk_drew ?_ | refine blk_alloc ?_ _)); exact BK127.out) hb); have n1_ := Aside0.mk (below_step (by repeat (first | (with_reducible first | exact HB.out | apply below_alloc | apply pw_below_drewN | apply below_drew1 | refine below_set ?_ GE127.out) | exact HB.out)) hb); clear BK127; clear HB; have BK127 := n0_; have HB := n1_; clear n0_ n1_; (try clear hb); (try clear hb2); (try clear hk); (try clear hi); have p129 : 0 ≤ (0 : Int) := (by omega); have q129 : 0 < (l0.length : Int) := of_decide_eq_true (by first | (with_reducible assumption) | assumption); obtain ⟨ad129, e129, hx129_0, hx129_1, hx129_2, hx129_3⟩ := at_T71 HR0.out 0 p129 q129; cases e129; have qi129 : (0 < l0.length) = True := eq_true (by omega); (try rw [show ((0 : Int)).toNat = 0 from rfl] at hx129_0); (try rw [show 0 * 4 = 0 from rfl] at hx129_0); (try rw [Addr.add_zero'] at hx129_0); (try rw [show ((0 : Int)).toNat = 0 from rfl] at hx129_1); (try rw [show 0 * 4 = 0 from rfl] at hx129_1); (try rw [Addr.add_zero'] at hx129_1); (try rw [show ((0 : Int)).toNat = 0 from rfl] at hx129_2); (try rw [show 0 * 4 = 0 from rfl] at hx129_2); (try rw [Addr.add_zero'] at hx129_2); (try rw [show ((0 : Int)).toNat = 0 from rfl] at hx129_3); (try rw [show 0 * 4 = 0 from rfl] at hx129_3); (try rw [Addr.add_zero'] at hx129_3); replace hx129_0 := (HB.out.cell (World.block_lt_of_cell? w _ hx129_0)).trans hx129_0; replace hx129_1 := (HB.out.cell (World.block_lt_of_cell? w _ hx129_1)).trans hx129_1; replace hx129_2 := (HB.out.cell (World.block_lt_of_cell? w _ hx129_2)).trans hx129_2; replace hx129_3 := (HB.out.cell (World.block_lt_of_cell? w _ hx129_3)).trans hx129_3; replace p129 := eq_true p129; replace q129 := eq_true q129; have hczx9f6a1 : wx9f6a1.cell? ⟨gb127, 0, none⟩ = some (.int .i64 0) := (blk_cell BK127.out 0).trans rfl; have hczx9f6a2 : wx9f6a1.cell? ⟨gb127, 1, none⟩ = some (.int .i64 0) := (blk_cell BK127.out 1).trans rfl; have hczx9f6a3 : wx9f6a1.cell? ⟨gb127, 2, none⟩ = some (.int .i64 0) := (blk_cell BK127.out 2).trans rfl; have hczx9f6a4 : wx9f6a1.cell? ⟨gb127, 3, none⟩ = some (.int .i64 0) := (blk_cell BK127.out 3).trans rfl; have hfzx9f6a1 := blk_frozen BK127.out 0; have hfzx9f6a2 := blk_frozen BK127.out 1; have hfzx9f6a3 := blk_frozen BK127.out 2; have hfzx9f6a4 := blk_frozen BK127.out 3) | ((with_reducible refine gate_callee (f := 76) rfl ?_); refine goesL_ (some 8) rfl rfl Try.func76 (by kernel_rfl) rfl #[.slice A0 l0.length c0] rfl (by (try simp only [List.map_toArray, List.map_cons, List.map_nil]); first | done | rfl | (simp only [List.length_drop, List.length_take]; rfl)) ?_; (with_reducible refine (fly_Check.calls k _ _ l0 t128 _ ?side1 ?side2 A3.out).mono ?_); (case side1 => repeat (first | exact (Kd.C_below HR0.out HB.out) | (with_reducible refine Kd.C_alloc ?_ _) | (with_reducible refine Kd.C_drewN ?_ _) | (with_reducible refine Kd.C_drew ?_))); (case side2 => exact HC0.out); rintro e wxa3c61 ⟨rfl, hb⟩; refine ⟨_, rfl, ?_⟩; have n0_ := Aside0.mk (blk_below (g := gb127) (o := .cells #[.int .i64 0, .int .i64 0, .int .i64 0, .int .i64 0] 71 (0, 0)) (by (with_reducible repeat (first | refine blk_drewN ?_ _ | refine blk_drew ?_ | refine blk_alloc ?_ _)); exact BK127.out) hb); have n1_ := Aside0.mk (below_step (by repeat (first | (with_reducible first | exact HB.out | apply below_alloc | apply pw_below_drewN | apply below_drew1 | refine below_set ?_ GE127.out) | exact HB.out)) hb); clear BK127; clear HB; have BK127 := n0_; have HB := n1_; clear n0_ n1_; (try clear hb); (try clear hb2); (try clear hk); (try clear hi); have hczxa3c61 : wxa3c61.cell? ⟨gb127, 0, none⟩ = some (.int .i64 0) := (blk_cell BK127.out 0).trans rfl; have hczxa3c62 : wxa3c61.cell? ⟨gb127, 1, none⟩ = some (.int .i64 0) := (blk_cell BK127.out 1).trans rfl; have hczxa3c63 : wxa3c61.cell? ⟨gb127, 2, none⟩ = some (.int .i64 0) := (blk_cell BK127.out 2).trans rfl; have hczxa3c64 : wxa3c61.cell? ⟨gb127, 3, none⟩ = some (.int .i64 0) := (blk_cell BK127.out 3).trans rfl; have hfzxa3c61 := blk_frozen BK127.out 0; have hfzxa3c62 := blk_frozen BK127.out 1; have hfzxa3c63 := blk_frozen BK127.out 2; have hfzxa3c64 := blk_frozen BK127.out 3) | ((with_reducible refine gate_callee (f := 77) rfl ?_); refine goesL_ (some 33) rfl rfl Try.func77 (by kernel_rfl) rfl #[.slice (some ad129) l0.length c0, .int .i64 a1] rfl (by (try simp only [List.map_toArray, List.map_cons, List.map_nil]); first | done | rfl | (simp only [List.length_drop, List.length_take]; rfl)) ?_; (with_reducible refine (fly_Point.calls k _ _ l0 a1 t131 t132 t133 t134 _ ?side1 ?side2 A17.out).mono ?_); (case side1 => repeat (first | exact (Kd.C_below HR0.out HB.out) | (with_reducible refine Kd.C_alloc ?_ _) | (with_reducible refine Kd.C_drewN ?_ _) | (with_reducible refine Kd.C_drew ?_))); (case side2 => exact HC0.out); rintro e wxcd4b1 ⟨rfl, hb⟩; refine ⟨_, rfl, ?_⟩; have n0_ := Aside0.mk (blk_below (g := gb127) (o := .cells #[.int .i64 0, .int .i64 0, .int .i64 0, .int .i64 0] 71 (0, 0)) (by (with_reducible repeat (first | refine blk_drewN ?_ _ | refine blk_drew ?_ | refine blk_alloc ?_ _)); exact BK127.out) hb); have n1_ := Aside0.mk (below_step (by repeat (first | (with_reducible first | exact HB.out | apply below_alloc | apply pw_below_drewN | apply below_drew1 | refine below_set ?_ GE127.out) | exact HB.out)) hb); clear BK127; clear HB; have BK127 := n0_; have HB := n1_; clear n0_ n1_; (try clear hb); (try clear hb2); (try clear hk); (try clear hi); have hczxcd4b1 : wxcd4b1.cell? ⟨gb127, 0, none⟩ = some (.int .i64 0) := (blk_cell BK127.out 0).trans rfl; have hczxcd4b2 : wxcd4b1.cell? ⟨gb127, 1, none⟩ = some (.int .i64 0) := (blk_cell BK127.out 1).trans rfl; have hczxcd4b3 : wxcd4b1.cell? ⟨gb127, 2, none⟩ = some (.int .i64 0) := (blk_cell BK127.out 2).trans rfl; have hczxcd4b4 : wxcd4b1.cell? ⟨gb127, 3, none⟩ = some (.int .i64 0) := (blk_cell BK127.out 3).trans rfl; have hfzxcd4b1 := blk_frozen BK127.out 0; have hfzxcd4b2 := blk_frozen BK127.out 1; have hfzxcd4b3 := blk_frozen BK127.out 2; have hfzxcd4b4 := blk_frozen BK127.out 3))
  first
   | (first | (have _hm := hm1_0) | (have _hm := hm1_1))
     refine bodyPost_ret (results_ct rfl _ _ gb127 71 #[.int .i64 0, .int .i64 0, .int .i64 0, .int .i64 0] (0, 0) _ rfl (by (with_reducible repeat (first | refine blk_drewN ?_ _ | refine blk_drew ?_ | refine blk_alloc ?_ _)); refine blk_put (cs := #[.int .i64 0, .int .i64 0, .int .i64 0, .int .i64 0]) ?_ 3 _ rfl; (with_reducible repeat (first | refine blk_drewN ?_ _ | refine blk_drew ?_ | refine blk_alloc ?_ _)); refine blk_put (cs := #[.int .i64 0, .int .i64 0, .int .i64 0, .int .i64 0]) ?_ 2 _ rfl; (with_reducible repeat (first | refine blk_drewN ?_ _ | refine blk_drew ?_ | refine blk_alloc ?_ _)); refine blk_put (cs := #[.int .i64 0, .int .i64 0, .int .i64 0, .int .i64 0]) ?_ 1 _ rfl; (with_reducible repeat (first | refine blk_drewN ?_ _ | refine blk_drew ?_ | refine blk_alloc ?_ _)); refine blk_put (cs := #[.int .i64 0, .int .i64 0, .int .i64 0, .int .i64 0]) ?_ 0 _ rfl; (with_reducible repeat (first | refine blk_drewN ?_ _ | refine blk_drew ?_ | refine blk_alloc ?_ _)); exact BK127.out) Try.underlying71 rfl (by kernel_rfl)) rfl ?_
     first
      | clear hm1_0
        exact ⟨by first | rfl | (simp [errW_none, errW_some] <;> rfl) | (simp [*, errW_none, errW_some] <;> rfl), by repeat (first | (with_reducible first | exact HB.out | apply below_alloc | apply pw_below_drewN | apply below_drew1 | refine below_set ?_ GE127.out) | exact HB.out)⟩
      | clear hm1_1
        exact ⟨by first | rfl | (simp [errW_none, errW_some] <;> rfl) | (simp only [← hji10]; first | rfl | (simp [errW_none, errW_some] <;> rfl)) | (simp [*, errW_none, errW_some] <;> rfl), by repeat (first | (with_reducible first | exact HB.out | apply below_alloc | apply pw_below_drewN | apply below_drew1 | refine below_set ?_ GE127.out) | exact HB.out)⟩
   | clear hm1_2
     refine bodyPost_ret (results_ct rfl _ _ gb127 71 #[.int .i64 t131, .int .i64 t132, .int .i64 t133, .int .i64 t134] (0, 0) _ rfl (by (with_reducible repeat (first | refine blk_drewN ?_ _ | refine blk_drew ?_ | refine blk_alloc ?_ _)); refine blk_put (cs := #[.int .i64 t131, .int .i64 t132, .int .i64 t133, .int .i64 0]) ?_ 3 _ rfl; (with_reducible repeat (first | refine blk_drewN ?_ _ | refine blk_drew ?_ | refine blk_alloc ?_ _)); refine blk_put (cs := #[.int .i64 t131, .int .i64 t132, .int .i64 0, .int .i64 0]) ?_ 2 _ rfl; (with_reducible repeat (first | refine blk_drewN ?_ _ | refine blk_drew ?_ | refine blk_alloc ?_ _)); refine blk_put (cs := #[.int .i64 t131, .int .i64 0, .int .i64 0, .int .i64 0]) ?_ 1 _ rfl; (with_reducible repeat (first | refine blk_drewN ?_ _ | refine blk_drew ?_ | refine blk_alloc ?_ _)); refine blk_put (cs := #[.int .i64 0, .int .i64 0, .int .i64 0, .int .i64 0]) ?_ 0 _ rfl; (with_reducible repeat (first | refine blk_drewN ?_ _ | refine blk_drew ?_ | refine blk_alloc ?_ _)); exact BK127.out) Try.underlying71 rfl (by kernel_rfl)) rfl ?_
     exact ⟨by first | rfl | (simp [errW_none, errW_some] <;> rfl) | (simp only [← hji10]; first | rfl | (simp [errW_none, errW_some] <;> rfl)) | (simp [*, errW_none, errW_some] <;> rfl), by repeat (first | (with_reducible first | exact HB.out | apply below_alloc | apply pw_below_drewN | apply below_drew1 | refine below_set ?_ GE127.out) | exact HB.out)⟩

/-! ### chart_Name: function 48 -/
mutual
def chart_Name.j0 : Nat → ByteArray → Bool → Option (Bool)
  | 0, _, _ => none
  | k + 1, x0, x22 => if x22 = true then (some false) else (chart_Name.l0 k x0 (x0.size : Int) 0)
def chart_Name.l0 : Nat → ByteArray → Int → Int → Option (Bool)
  | 0, _, _, _ => none
  | k + 1, x0, x24, x25 => if x25 < x24 then (if 0 ≤ x25 then (if x25 < (x0.size : Int) then (if (bt x0 x25) < 65 then (if (bt x0 x25) < 48 then (some false) else (if (bt x0 x25) > 57 then (some false) else (chart_Name.l0 k x0 x24 (wrap64 (x25 + 1))))) else (if (bt x0 x25) > 90 then (if (bt x0 x25) < 48 then (some false) else (if (bt x0 x25) > 57 then (some false) else (chart_Name.l0 k x0 x24 (wrap64 (x25 + 1))))) else (chart_Name.l0 k x0 x24 (wrap64 (x25 + 1))))) else (none)) else (none)) else (some true)
end
def chart_Name.f (k : Nat) (a0 : ByteArray) : Option (Bool) := if (a0.size : Int) = 0 then (chart_Name.j0 k a0 true) else (if (a0.size : Int) > 8 then (chart_Name.j0 k a0 true) else (if 0 < (a0.size : Int) then (if (bt a0 0) < 65 then (chart_Name.j0 k a0 true) else (chart_Name.j0 k a0 (decide ((bt a0 0) > 90)))) else (none)))
theorem chart_Name.mono_l : ∀ k, (∀ y0 y1, LeO (chart_Name.j0 k y0 y1) (chart_Name.j0 (k + 1) y0 y1)) ∧ (∀ y0 y1 y2, LeO (chart_Name.l0 k y0 y1 y2) (chart_Name.l0 (k + 1) y0 y1 y2))
  | 0 => ⟨fun _ _ r h => by simp [chart_Name.j0] at h, fun _ _ _ r h => by simp [chart_Name.l0] at h⟩
  | k + 1 => by
    obtain ⟨ih0, ih1⟩ := chart_Name.mono_l k
    refine ⟨?_, ?_⟩
    · intro y0 y1
      unfold chart_Name.j0
      repeat' first
      | (with_reducible exact ih0 _ _)
      | (with_reducible exact ih1 _ _ _)
      | (with_reducible exact LeO.refl _)
      | (with_reducible exact LeO.none _)
      | (with_reducible refine LeO.ite ?_ ?_)
      | (with_reducible refine LeO.bind ?_ (fun _ => ?_))
      | exact ih0 _ _
      | exact ih1 _ _ _
      | exact LeO.none _
      | refine LeO.ite ?_ ?_
      | refine LeO.bind ?_ (fun _ => ?_)
    · intro y0 y1 y2
      unfold chart_Name.l0
      repeat' first
      | (with_reducible exact ih0 _ _)
      | (with_reducible exact ih1 _ _ _)
      | (with_reducible exact LeO.refl _)
      | (with_reducible exact LeO.none _)
      | (with_reducible refine LeO.ite ?_ ?_)
      | (with_reducible refine LeO.bind ?_ (fun _ => ?_))
      | exact ih0 _ _
      | exact ih1 _ _ _
      | exact LeO.none _
      | refine LeO.ite ?_ ?_
      | refine LeO.bind ?_ (fun _ => ?_)
theorem chart_Name.mono : ∀ a0 k, LeO (chart_Name.f k a0) (chart_Name.f (k + 1) a0) := by
  intro a0 k
  obtain ⟨ih0, ih1⟩ := chart_Name.mono_l k
  unfold chart_Name.f
  repeat' first
      | (with_reducible exact ih0 _ _)
      | (with_reducible exact ih1 _ _ _)
      | (with_reducible exact LeO.refl _)
      | (with_reducible exact LeO.none _)
      | (with_reducible refine LeO.ite ?_ ?_)
      | (with_reducible refine LeO.bind ?_ (fun _ => ?_))
      | exact ih0 _ _
      | exact ih1 _ _ _
      | exact LeO.none _
      | refine LeO.ite ?_ ?_
      | refine LeO.bind ?_ (fun _ => ?_)
set_option maxHeartbeats 8000000 in
set_option maxRecDepth 100000 in
theorem chart_Name.calls (k : Nat) (a0 : ByteArray) (r : Bool) (w : World) (h : chart_Name.f k a0 = some r) :
    Calls Try.prog 48 #[.string a0] w fun e w' => e = .returned (.bool r) ∧ Below w.heap.size w w' := by
 have HB := Aside0.mk (Below.refl w.heap.size w)
 have H : (if (a0.size : Int) = 0 then (chart_Name.j0 k a0 true) else (if (a0.size : Int) > 8 then (chart_Name.j0 k a0 true) else (if 0 < (a0.size : Int) then (if (bt a0 0) < 65 then (chart_Name.j0 k a0 true) else (chart_Name.j0 k a0 (decide ((bt a0 0) > 90)))) else (none)))) = some r := h
 clear h
 have HC2 := Aside0.mk H
 clear H
 go_enter Try.func48, Try.ntmps48
 go_upto_region 1 with (fail)
 go_cut [22] (fun v22 wc => ∃ (kq : Nat) (x22_1 : Bool), v22 = .bool x22_1 ∧ Aside0 (chart_Name.j0 kq a0 x22_1 = some r) ∧ Aside0 (kq ≤ k) ∧ Aside0 (Below w.heap.size w wc))
 case first =>
  have H := HC2.out
  clear HC2
  refine Or.elim (Classical.em ((a0.size : Int) = 0)) (fun c3 => ?p2_) (fun c3 => ?n2_)
  case' p2_ =>
   rw [if_pos c3] at H
   have c3b0 : ((a0.size : Int) == 0) = true := beq_iff_eq.mpr c3
   have c3b1 : ((a0.size : Int) != 0) = false := bne_eq_false_iff_eq.mpr c3
   clear c3
   (first | rw [c3b0] | (simp only [i64_w, i32_w]; rw [c3b0]) | skip)
   have hm1_0 := Aside0.mk trivial
  case' n2_ =>
   rw [if_neg c3] at H
   have c3b0 : ((a0.size : Int) == 0) = false := beq_eq_false_iff_ne.mpr c3
   have c3b1 : ((a0.size : Int) != 0) = true := bne_iff_ne.mpr c3
   (first | rw [c3b0] | (simp only [i64_w, i32_w]; rw [c3b0]) | skip)
   refine Or.elim (Classical.em ((a0.size : Int) > 8)) (fun c4 => ?p3_) (fun c4 => ?n3_)
   case' p3_ =>
    rw [if_pos c4] at H
    have c4b0 : decide (8 < (a0.size : Int)) = true := decide_eq_true c4
    have c4b1 : decide (8 < a0.size) = true := decide_eq_true (by omega)
    clear c4
    have hm1_0 := Aside0.mk trivial
   case' n3_ =>
    rw [if_neg c4] at H
    have c4b0 : decide (8 < (a0.size : Int)) = false := decide_eq_false c4
    have c4b1 : decide (8 < a0.size) = false := decide_eq_false (by omega)
    clear c4
    refine Or.elim (Classical.em (0 < (a0.size : Int))) (fun c5 => ?p4_) (fun c5 => ?n4_)
    case' p4_ =>
     rw [if_pos c5] at H
     have c5b0 : decide (0 < (a0.size : Int)) = true := decide_eq_true c5
     have c5b1 : decide (0 < a0.size) = true := decide_eq_true (by omega)
     clear c5
     refine Or.elim (Classical.em ((bt a0 0) < 65)) (fun c7 => ?p5_) (fun c7 => ?n5_)
     case' p5_ =>
      rw [if_pos c7] at H
      have c7b0 : decide ((bt a0 0) < 65) = true := decide_eq_true c7
      clear c7
      have hm1_1 := Aside0.mk trivial
     case' n5_ =>
      rw [if_neg c7] at H
      have c7b0 : decide ((bt a0 0) < 65) = false := decide_eq_false c7
      clear c7
      have hm1_2 := Aside0.mk trivial
    case' n4_ =>
     rw [if_neg c5] at H
     exact absurd H (by simp)
  all_goals
   have H' := Aside0.mk H
   clear H
   first
    | clear hm1_0
      go_wp2
      go_meet
      case rel => exact ⟨_, (true), (by first | rfl | (simp; done) | (simp [*]; done)), H', ⟨by first | omega | exact Nat.le_refl _⟩, ⟨by repeat (first | (with_reducible first | exact HB.out | apply below_alloc | apply pw_below_drewN | apply below_drew1) | exact HB.out)⟩⟩
    | (first | (have _hm := hm1_1) | (have _hm := hm1_2))
      have p6 : 0 ≤ (0 : Int) := (by omega)
      have q6 : 0 < a0.size := (by have : (0 : Int) < (a0.size : Int) := of_decide_eq_true (by first | (with_reducible assumption) | assumption); omega)
      have hx6 : ∀ h : 0 < a0.size, ((a0[0]'h).toNat : Int) = bt a0 0 := bt_at a0 0
      clear p6
      have qi6 : (0 < (a0.size : Int)) = True := eq_true (of_decide_eq_true (by first | (with_reducible assumption) | assumption))
      replace q6 := eq_true q6
      first
       | clear hm1_1
         go_wp2
         go_meet
         case rel => exact ⟨_, (true), (by first | rfl | (simp; done) | (simp [*]; done)), H', ⟨by first | omega | exact Nat.le_refl _⟩, ⟨by repeat (first | (with_reducible first | exact HB.out | apply below_alloc | apply pw_below_drewN | apply below_drew1) | exact HB.out)⟩⟩
       | clear hm1_2
         have p8 : 0 ≤ (0 : Int) := (by omega)
         have q8 : 0 < a0.size := (by have : (0 : Int) < (a0.size : Int) := of_decide_eq_true (by first | (with_reducible assumption) | assumption); omega)
         have hx8 : ∀ h : 0 < a0.size, ((a0[0]'h).toNat : Int) = bt a0 0 := bt_at a0 0
         clear p8
         have qi8 : (0 < (a0.size : Int)) = True := eq_true (of_decide_eq_true (by first | (with_reducible assumption) | assumption))
         replace q8 := eq_true q8
         go_wp2
         go_meet
         case rel => exact ⟨_, (decide ((bt a0 0) > 90)), (by first | rfl | (simp; done) | (simp [*]; done)), H', ⟨by first | omega | exact Nat.le_refl _⟩, ⟨by repeat (first | (with_reducible first | exact HB.out | apply below_alloc | apply pw_below_drewN | apply below_drew1) | exact HB.out)⟩⟩
 case rest =>
  clear HC2
  (try clear p2); (try clear c3); (try clear c3b0); (try clear c3b1); (try clear c4); (try clear c4b0); (try clear c4b1); (try clear c5); (try clear c5b0); (try clear c5b1); (try clear p6); (try clear q6); (try clear hx6); (try clear qi6); (try clear c7); (try clear c7b0); (try clear p8); (try clear q8); (try clear hx8); (try clear qi8); (try clear p6); (try clear p8); (try clear q6); (try clear q8)
  obtain ⟨kq, x22_1, rfl, HA, HJ1, HB⟩ := hcut
  cases kq with
  | zero => exact absurd HA.out (by simp [chart_Name.j0])
  | succ kj1 =>
   have H := HA.out
   clear HA
   simp only [chart_Name.j0] at H
   by_cases c9 : x22_1 = true
   · subst c9
     have H1 : (some false) = some r := by rw [if_pos rfl] at H; exact H
     clear H
     have H := H1
     clear H1
     obtain rfl := Option.some.inj H
     go_wp2
     go_ret
     exact ⟨by first | rfl | (simp [errW_none, errW_some] <;> rfl) | (simp [*, errW_none, errW_some] <;> rfl), by repeat (first | (with_reducible first | exact HB.out | apply below_alloc | apply pw_below_drewN | apply below_drew1) | exact HB.out)⟩
   · replace c9 := Bool.eq_false_iff.mpr c9
     subst c9
     have H1 : (chart_Name.l0 kj1 a0 (a0.size : Int) 0) = some r := by rw [if_neg (show ¬ (false = true) by decide)] at H; exact H
     clear H
     have H := H1
     clear H1
     have H' := Aside0.mk H
     clear H
     go_wp2
     go_loopg [25] kj1 (fun kq v25 w' => ∃ (x25_2 : Int), v25 = .int .i64 x25_2 ∧ Aside0 (chart_Name.l0 kq a0 (a0.size : Int) x25_2 = some r) ∧ Aside0 (kq ≤ kj1) ∧ Aside0 (Below w.heap.size w w'))
     case atStart => exact ⟨(0), (by first | rfl | (simp; done) | (simp [*]; done)), H', ⟨Nat.le_refl _⟩, ⟨by repeat (first | (with_reducible first | exact HB.out | apply below_alloc | apply pw_below_drewN | apply below_drew1) | exact HB.out)⟩⟩
     case round =>
      clear H'
      (try clear p2); (try clear c3); (try clear c3b0); (try clear c3b1); (try clear c4); (try clear c4b0); (try clear c4b1); (try clear c5); (try clear c5b0); (try clear c5b1); (try clear p6); (try clear q6); (try clear hx6); (try clear qi6); (try clear c7); (try clear c7b0); (try clear p8); (try clear q8); (try clear hx8); (try clear qi8); (try clear c9); (try clear p2); (try clear p6); (try clear p8); (try clear q6); (try clear q8)
      obtain ⟨x25_2, rfl, HA, HK2, HB⟩ := hrel
      cases gk with
      | zero => exact absurd HA.out (by simp [chart_Name.l0])
      | succ k2 =>
       have H := HA.out
       clear HA
       simp only [chart_Name.l0] at H
       refine Or.elim (Classical.em (x25_2 < (a0.size : Int))) (fun c10 => ?p7_) (fun c10 => ?n7_)
       case' p7_ =>
        rw [if_pos c10] at H
        have c10b0 : decide (x25_2 < (a0.size : Int)) = true := decide_eq_true c10
        clear c10
        refine Or.elim (Classical.em (0 ≤ x25_2)) (fun c11 => ?p8_) (fun c11 => ?n8_)
        case' p8_ =>
         rw [if_pos c11] at H
         have c11b0 : decide (0 ≤ x25_2) = true := decide_eq_true c11
         clear c11
         refine Or.elim (Classical.em (x25_2 < (a0.size : Int))) (fun c12 => ?p9_) (fun c12 => ?n9_)
         case' p9_ =>
          rw [if_pos c12] at H
          have c12b0 : decide (x25_2 < (a0.size : Int)) = true := decide_eq_true c12
          clear c12
          refine Or.elim (Classical.em ((bt a0 x25_2) < 65)) (fun c14 => ?p10_) (fun c14 => ?n10_)
          case' p10_ =>
           rw [if_pos c14] at H
           have c14b0 : decide ((bt a0 x25_2) < 65) = true := decide_eq_true c14
           clear c14
           refine Or.elim (Classical.em ((bt a0 x25_2) < 48)) (fun c15 => ?p11_) (fun c15 => ?n11_)
           case' p11_ =>
            rw [if_pos c15] at H
            have c15b0 : decide ((bt a0 x25_2) < 48) = true := decide_eq_true c15
            clear c15
            have hm6_0 := Aside0.mk trivial
           case' n11_ =>
            rw [if_neg c15] at H
            have c15b0 : decide ((bt a0 x25_2) < 48) = false := decide_eq_false c15
            clear c15
            refine Or.elim (Classical.em ((bt a0 x25_2) > 57)) (fun c16 => ?p12_) (fun c16 => ?n12_)
            case' p12_ =>
             rw [if_pos c16] at H
             have c16b0 : decide (57 < (bt a0 x25_2)) = true := decide_eq_true c16
             clear c16
             have hm6_0 := Aside0.mk trivial
            case' n12_ =>
             rw [if_neg c16] at H
             have c16b0 : decide (57 < (bt a0 x25_2)) = false := decide_eq_false c16
             clear c16
             have hm6_1 := Aside0.mk trivial
          case' n10_ =>
           rw [if_neg c14] at H
           have c14b0 : decide ((bt a0 x25_2) < 65) = false := decide_eq_false c14
           clear c14
           refine Or.elim (Classical.em ((bt a0 x25_2) > 90)) (fun c17 => ?p13_) (fun c17 => ?n13_)
           case' p13_ =>
            rw [if_pos c17] at H
            have c17b0 : decide (90 < (bt a0 x25_2)) = true := decide_eq_true c17
            clear c17
            refine Or.elim (Classical.em ((bt a0 x25_2) < 48)) (fun c18 => ?p14_) (fun c18 => ?n14_)
            case' p14_ =>
             rw [if_pos c18] at H
             have c18b0 : decide ((bt a0 x25_2) < 48) = true := decide_eq_true c18
             clear c18
             have hm6_0 := Aside0.mk trivial
            case' n14_ =>
             rw [if_neg c18] at H
             have c18b0 : decide ((bt a0 x25_2) < 48) = false := decide_eq_false c18
             clear c18
             refine Or.elim (Classical.em ((bt a0 x25_2) > 57)) (fun c19 => ?p15_) (fun c19 => ?n15_)
             case' p15_ =>
              rw [if_pos c19] at H
              have c19b0 : decide (57 < (bt a0 x25_2)) = true := decide_eq_true c19
              clear c19
              have hm6_0 := Aside0.mk trivial
             case' n15_ =>
              rw [if_neg c19] at H
              have c19b0 : decide (57 < (bt a0 x25_2)) = false := decide_eq_false c19
              clear c19
              have hm6_1 := Aside0.mk trivial
           case' n13_ =>
            rw [if_neg c17] at H
            have c17b0 : decide (90 < (bt a0 x25_2)) = false := decide_eq_false c17
            clear c17
            have hm6_1 := Aside0.mk trivial
         case' n9_ =>
          rw [if_neg c12] at H
          exact absurd H (by simp)
        case' n8_ =>
         rw [if_neg c11] at H
         exact absurd H (by simp)
       case' n7_ =>
        rw [if_neg c10] at H
        have c10b0 : decide (x25_2 < (a0.size : Int)) = false := decide_eq_false c10
        clear c10
        have hm6_2 := Aside0.mk trivial
       all_goals
        first
         | (first | (have _hm := hm6_0) | (have _hm := hm6_2))
           obtain rfl := Option.some.inj H
           first
            | clear hm6_0
              have p13 : 0 ≤ (x25_2 : Int) := of_decide_eq_true (by first | (with_reducible assumption) | assumption)
              have q13 : x25_2 < (a0.size : Int) := of_decide_eq_true (by first | (with_reducible assumption) | assumption)
              have hx13 := bt_at a0 x25_2
              replace p13 := eq_true p13
              replace q13 := eq_true q13
              go_wp2
              go_ret
              exact ⟨by first | rfl | (simp [errW_none, errW_some] <;> rfl) | (simp [*, errW_none, errW_some] <;> rfl), by repeat (first | (with_reducible first | exact HB.out | apply below_alloc | apply pw_below_drewN | apply below_drew1) | exact HB.out)⟩
            | clear hm6_2
              go_wp2
              go_ret
              exact ⟨by first | rfl | (simp [errW_none, errW_some] <;> rfl) | (simp [*, errW_none, errW_some] <;> rfl), by repeat (first | (with_reducible first | exact HB.out | apply below_alloc | apply pw_below_drewN | apply below_drew1) | exact HB.out)⟩
         | clear hm6_1
           have H' := Aside0.mk H
           clear H
           have p13 : 0 ≤ (x25_2 : Int) := of_decide_eq_true (by first | (with_reducible assumption) | assumption)
           have q13 : x25_2 < (a0.size : Int) := of_decide_eq_true (by first | (with_reducible assumption) | assumption)
           have hx13 := bt_at a0 x25_2
           replace p13 := eq_true p13
           replace q13 := eq_true q13
           go_wp2
           go_roundg k2
           case measure => have := HJ1.out; have := HK2.out; omega
           case rel => exact ⟨(wrap64 (x25_2 + 1)), (by first | rfl | (simp; done) | (simp [*]; done)), H', ⟨by have := HJ1.out; have := HK2.out; omega⟩, ⟨by repeat (first | (with_reducible first | exact HB.out | apply below_alloc | apply pw_below_drewN | apply below_drew1) | exact HB.out)⟩⟩

end Go.Proofs.Ytbpbpojnfhhbjaa.PFlyClosed
