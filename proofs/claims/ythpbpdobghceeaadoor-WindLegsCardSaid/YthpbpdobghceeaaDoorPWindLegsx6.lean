/- Made by a program of this session (wip/tools/myprint.py, over the kit's printer): that the Go functions answer as the Lean functions printed beside them. -/
import Derived.Test.YthpbpdobghceeaaDoorPWindLegsx0
import Derived.Test.YthpbpdobghceeaaDoorPWindLegsx1
import Derived.Test.YthpbpdobghceeaaDoorPWindLegsx2
import Derived.Test.YthpbpdobghceeaaDoorPWindLegsx4
import Derived.Test.YthpbpdobghceeaaDoorPWindLegsx5
namespace Go.Proofs.YthpbpdobghceeaaDoor.PWindLegs
open Go.RowKit Go.Proofs.YthpbpdobghceeaaDoorW.PrintWords Go.Proofs.YthpbpdobghceeaaDoorW.PrintLast Go.Proofs.YthpbpdobghceeaaDoorW.PrintMore
attribute [local go_sem] max2_int min2_int max_two min_two max_three min_three max_four min_four   -- for this text's walks alone
set_option linter.unusedVariables false
set_option linter.unusedSimpArgs false

attribute [local go_sem high] eqA28
/-! ### plane_Check: function 33 -/
def plane_Check.f (a0_0 : Int) (a0_1 : Int) : Option (Int) := if a0_0 < (-1000000) then (some 4) else (if a0_0 > 1000000 then (some 4) else (if a0_1 < (-1000000) then (some 4) else (if a0_1 > 1000000 then (some 4) else (some 0))))
set_option maxHeartbeats 8000000 in
set_option maxRecDepth 100000 in
theorem plane_Check.calls (a0_0 : Int) (a0_1 : Int) (r : Int) (w : World) (h : plane_Check.f a0_0 a0_1 = some r) :
    Calls Tryd.prog 33 #[.agg #[.int .i64 a0_0, .int .i64 a0_1]] w fun e w' => e = .returned (.int .i64 r) ∧ Below w.heap.size w w' := by
 have hu28 := Tryd.underlying28
 have HB := Aside0.mk (Below.refl w.heap.size w)
 have H : (if a0_0 < (-1000000) then (some 4) else (if a0_0 > 1000000 then (some 4) else (if a0_1 < (-1000000) then (some 4) else (if a0_1 > 1000000 then (some 4) else (some 0))))) = some r := h
 clear h
 refine Or.elim (Classical.em (a0_0 < (-1000000))) (fun c2 => ?p2_) (fun c2 => ?n2_)
 case' p2_ =>
  rw [if_pos c2] at H
  have c2b0 : decide (a0_0 < (-1000000)) = true := decide_eq_true c2
  clear c2
 case' n2_ =>
  rw [if_neg c2] at H
  have c2b0 : decide (a0_0 < (-1000000)) = false := decide_eq_false c2
  clear c2
  refine Or.elim (Classical.em (a0_0 > 1000000)) (fun c5 => ?p3_) (fun c5 => ?n3_)
  case' p3_ =>
   rw [if_pos c5] at H
   have c5b0 : decide (1000000 < a0_0) = true := decide_eq_true c5
   clear c5
  case' n3_ =>
   rw [if_neg c5] at H
   have c5b0 : decide (1000000 < a0_0) = false := decide_eq_false c5
   clear c5
   refine Or.elim (Classical.em (a0_1 < (-1000000))) (fun c8 => ?p4_) (fun c8 => ?n4_)
   case' p4_ =>
    rw [if_pos c8] at H
    have c8b0 : decide (a0_1 < (-1000000)) = true := decide_eq_true c8
    clear c8
   case' n4_ =>
    rw [if_neg c8] at H
    have c8b0 : decide (a0_1 < (-1000000)) = false := decide_eq_false c8
    clear c8
    refine Or.elim (Classical.em (a0_1 > 1000000)) (fun c11 => ?p5_) (fun c11 => ?n5_)
    case' p5_ =>
     rw [if_pos c11] at H
     have c11b0 : decide (1000000 < a0_1) = true := decide_eq_true c11
     clear c11
    case' n5_ =>
     rw [if_neg c11] at H
     have c11b0 : decide (1000000 < a0_1) = false := decide_eq_false c11
     clear c11
 all_goals
  obtain rfl := Option.some.inj H
  go_enter Tryd.func33, Tryd.ntmps33
  go_wp2_with (first | ((with_reducible refine gate_dst (N := 1) rfl ?_); refine box_event ?hg (N := 1) ?hd (cs := #[.int .i64 a0_0, .int .i64 a0_1]) (t := 28) ?hr ?_; (case hd => rfl); (case hg => rfl); (case hr => first | (go_simp; done) | (go_simp; rfl)); intro gb139 hg wx10f11 hbox hb; have n0_ := Aside0.mk (below_step (by repeat (first | (with_reducible first | exact HB.out | apply below_alloc | apply pw_below_drewN | apply below_drew1) | exact HB.out)) hb); have n1_ := Aside0.mk (hbox); have n2_ := Aside0.mk ((by rw [hg]; exact (below_size (by repeat (first | (with_reducible first | exact HB.out | apply below_alloc | apply pw_below_drewN | apply below_drew1) | exact HB.out))) : w.heap.size ≤ gb139)); have n3_ := Aside0.mk ((by rw [hg]; exact (below_size (by repeat (first | (with_reducible first | exact HB.out | apply below_alloc | apply pw_below_drewN | apply below_drew1) | exact HB.out))) : w.heap.size ≤ gb139)); clear HB; have HB := n0_; have BK139 := n1_; have GW139 := n2_; have GE139 := n3_; clear n0_ n1_ n2_ n3_; clear hb hbox hg; have hczx10f11 : wx10f11.cell? ⟨gb139, 0, none⟩ = some (.int .i64 a0_0) := (blk_cell BK139.out 0).trans rfl; have hczx10f12 : wx10f11.cell? ⟨gb139, 1, none⟩ = some (.int .i64 a0_1) := (blk_cell BK139.out 1).trans rfl; have hfzx10f11 := blk_frozen BK139.out 0; have hfzx10f12 := blk_frozen BK139.out 1))
  go_ret
  exact ⟨by first | rfl | (simp [errW_none, errW_some] <;> rfl) | (simp [*, errW_none, errW_some] <;> rfl), by repeat (first | (with_reducible first | exact HB.out | apply below_alloc | apply pw_below_drewN | apply below_drew1 | refine below_set ?_ GE139.out) | exact HB.out)⟩

/-! ### wind_at: function 35 -/
def wind_at.l0 : Nat → Int → List (S38) → Int → Int → Option (Int × Int × Int × Int × Int)
  | 0, _, _, _, _ => none
  | k + 1, x1, x7, x8, x9 => if x9 < x8 then (if 0 ≤ x9 then (if x9 < (x7.length : Int) then (if x1 ≥ ((rd_T38 x7 x9).f0) then (if x1 < ((rd_T38 x7 x9).f1) then (some ((rd_T38 x7 x9).f0, (rd_T38 x7 x9).f1, (rd_T38 x7 x9).f2.f0, (rd_T38 x7 x9).f2.f1, (rd_T38 x7 x9).f3)) else (wind_at.l0 k x1 x7 x8 (wrap64 (x9 + 1)))) else (wind_at.l0 k x1 x7 x8 (wrap64 (x9 + 1)))) else (none)) else (none)) else (some (0, 60001, 0, 0, 0))
def wind_at.f (k : Nat) (l0 : List (S38)) (a1 : Int) : Option (Int × Int × Int × Int × Int) := wind_at.l0 k a1 l0 (l0.length : Int) 0
theorem wind_at.mono_l : ∀ k, (∀ y0 y1 y2 y3, LeO (wind_at.l0 k y0 y1 y2 y3) (wind_at.l0 (k + 1) y0 y1 y2 y3))
  | 0 => fun _ _ _ _ r h => by simp [wind_at.l0] at h
  | k + 1 => by
    have ih0 := wind_at.mono_l k
    · intro y0 y1 y2 y3
      unfold wind_at.l0
      repeat' first
      | (with_reducible exact ih0 _ _ _ _)
      | (with_reducible exact LeO.refl _)
      | (with_reducible exact LeO.none _)
      | (with_reducible refine LeO.ite ?_ ?_)
      | (with_reducible refine LeO.bind ?_ (fun _ => ?_))
      | exact ih0 _ _ _ _
      | exact LeO.none _
      | refine LeO.ite ?_ ?_
      | refine LeO.bind ?_ (fun _ => ?_)
theorem wind_at.mono : ∀ a0 a1 k, LeO (wind_at.f k a0 a1) (wind_at.f (k + 1) a0 a1) := by
  intro a0 a1 k
  have ih0 := wind_at.mono_l k
  unfold wind_at.f
  repeat' first
      | (with_reducible exact ih0 _ _ _ _)
      | (with_reducible exact LeO.refl _)
      | (with_reducible exact LeO.none _)
      | (with_reducible refine LeO.ite ?_ ?_)
      | (with_reducible refine LeO.bind ?_ (fun _ => ?_))
      | exact ih0 _ _ _ _
      | exact LeO.none _
      | refine LeO.ite ?_ ?_
      | refine LeO.bind ?_ (fun _ => ?_)
set_option maxHeartbeats 8000000 in
set_option maxRecDepth 100000 in
theorem wind_at.calls (k : Nat) (A0 : Option Addr) (c0 : Nat) (l0 : List (S38)) (a1 : Int) (r1 : Int) (r2 : Int) (r3 : Int) (r4 : Int) (r5 : Int) (w : World) (hr0 : Kd.C k38 w A0 l0.length l0) (hc0 : l0.length ≤ c0) (h : wind_at.f k l0 a1 = some (r1, r2, r3, r4, r5)) :
    Calls Tryd.prog 35 #[.slice A0 l0.length c0, .int .i64 a1] w fun e w' => e = .returned (.agg #[.int .i64 r1, .int .i64 r2, .int .i64 r3, .int .i64 r4, .int .i64 r5]) ∧ Below w.heap.size w w' := by
 have hu38 := Tryd.underlying38
 have HR0 := Aside0.mk hr0
 have HC0 := Aside0.mk hc0
 clear hr0 hc0
 have HB := Aside0.mk (Below.refl w.heap.size w)
 have H : (wind_at.l0 k a1 l0 (l0.length : Int) 0) = some (r1, r2, r3, r4, r5) := h
 clear h
 have H' := Aside0.mk H
 clear H
 go_enter Tryd.func35, Tryd.ntmps35
 go_wp2_with (first | ((with_reducible refine gate_dst (N := 4) rfl ?_); refine box_event ?hg (N := 4) ?hd (cs := #[.int .i64 0, .int .i64 0, .int .i64 0, .int .i64 0, .int .i64 0]) (t := 38) ?hr ?_; (case hd => rfl); (case hg => rfl); (case hr => first | (go_simp; done) | (go_simp; rfl)); intro gb140 hg w3 hbox hb; have n0_ := Aside0.mk (below_step (by repeat (first | (with_reducible first | exact HB.out | apply below_alloc | apply pw_below_drewN | apply below_drew1) | exact HB.out)) hb); have n1_ := Aside0.mk (hbox); have n2_ := Aside0.mk ((by rw [hg]; exact (below_size (by repeat (first | (with_reducible first | exact HB.out | apply below_alloc | apply pw_below_drewN | apply below_drew1) | exact HB.out))) : w.heap.size ≤ gb140)); have n3_ := Aside0.mk ((by rw [hg]; exact (below_size (by repeat (first | (with_reducible first | exact HB.out | apply below_alloc | apply pw_below_drewN | apply below_drew1) | exact HB.out))) : w.heap.size ≤ gb140)); clear HB; have HB := n0_; have BK140 := n1_; have GW140 := n2_; have GE140 := n3_; clear n0_ n1_ n2_ n3_; clear hb hbox hg))
 go_loopg [9] k (fun kq v9 w' => ∃ (x9_1 : Int) (x141000_1 : Int) (x141001_1 : Int) (x141002_1 : Int) (x141003_1 : Int) (x141004_1 : Int), v9 = .int .i64 x9_1 ∧ Aside0 (wind_at.l0 kq a1 l0 (l0.length : Int) x9_1 = some (r1, r2, r3, r4, r5)) ∧ Aside0 (kq ≤ k) ∧ Aside0 (w'.heap[gb140]? = some (.cells #[.int .i64 x141000_1, .int .i64 x141001_1, .int .i64 x141002_1, .int .i64 x141003_1, .int .i64 x141004_1] 38 (0, 0))) ∧ Aside0 (Below w.heap.size w w'))
 case atStart => exact ⟨(0), (0), (0), (0), (0), (0), (by first | rfl | (simp; done) | (simp [*]; done)), H', ⟨Nat.le_refl _⟩, ⟨by (with_reducible repeat (first | refine blk_drewN ?_ _ | refine blk_drew ?_ | refine blk_alloc ?_ _)); exact BK140.out⟩, ⟨by repeat (first | (with_reducible first | exact HB.out | apply below_alloc | apply pw_below_drewN | apply below_drew1 | refine below_set ?_ GE140.out) | exact HB.out)⟩⟩
 case round =>
  clear H'
  (try clear p2); (try clear c3)
  obtain ⟨x9_1, x141000_1, x141001_1, x141002_1, x141003_1, x141004_1, rfl, HA, HK1, BK140, HB⟩ := hrel
  cases gk with
  | zero => exact absurd HA.out (by simp [wind_at.l0])
  | succ k1 =>
   have H := HA.out
   clear HA
   simp only [wind_at.l0] at H
   refine Or.elim (Classical.em (x9_1 < (l0.length : Int))) (fun c4 => ?p2_) (fun c4 => ?n2_)
   case' p2_ =>
    rw [if_pos c4] at H
    have c4b0 : decide (x9_1 < (l0.length : Int)) = true := decide_eq_true c4
    clear c4
    refine Or.elim (Classical.em (0 ≤ x9_1)) (fun c5 => ?p3_) (fun c5 => ?n3_)
    case' p3_ =>
     rw [if_pos c5] at H
     have c5b0 : decide (0 ≤ x9_1) = true := decide_eq_true c5
     clear c5
     refine Or.elim (Classical.em (x9_1 < (l0.length : Int))) (fun c6 => ?p4_) (fun c6 => ?n4_)
     case' p4_ =>
      rw [if_pos c6] at H
      have c6b0 : decide (x9_1 < (l0.length : Int)) = true := decide_eq_true c6
      clear c6
      refine Or.elim (Classical.em (a1 ≥ ((rd_T38 l0 x9_1).f0))) (fun c7 => ?p5_) (fun c7 => ?n5_)
      case' p5_ =>
       rw [if_pos c7] at H
       have c7b0 : decide (((rd_T38 l0 x9_1).f0) ≤ a1) = true := decide_eq_true c7
       clear c7
       refine Or.elim (Classical.em (a1 < ((rd_T38 l0 x9_1).f1))) (fun c8 => ?p6_) (fun c8 => ?n6_)
       case' p6_ =>
        rw [if_pos c8] at H
        have c8b0 : decide (a1 < ((rd_T38 l0 x9_1).f1)) = true := decide_eq_true c8
        clear c8
        simp only [Option.some.injEq, Prod.mk.injEq] at H
        obtain ⟨rfl, rfl, rfl, rfl, rfl⟩ := H
        have p141 : 0 ≤ (x9_1 : Int) := of_decide_eq_true (by first | (with_reducible assumption) | assumption)
        have q141 : x9_1 < (l0.length : Int) := of_decide_eq_true (by first | (with_reducible assumption) | assumption)
        obtain ⟨ad141, e141, hx141_0, hx141_1, hx141_2, hx141_3, hx141_4⟩ := at_T38 HR0.out x9_1 p141 q141
        cases e141
        replace hx141_0 := (HB.out.cell (World.block_lt_of_cell? w _ hx141_0)).trans hx141_0
        replace hx141_1 := (HB.out.cell (World.block_lt_of_cell? w _ hx141_1)).trans hx141_1
        replace hx141_2 := (HB.out.cell (World.block_lt_of_cell? w _ hx141_2)).trans hx141_2
        replace hx141_3 := (HB.out.cell (World.block_lt_of_cell? w _ hx141_3)).trans hx141_3
        replace hx141_4 := (HB.out.cell (World.block_lt_of_cell? w _ hx141_4)).trans hx141_4
        replace p141 := eq_true p141
        replace q141 := eq_true q141
        have hm1_0 := Aside0.mk trivial
       case' n6_ =>
        rw [if_neg c8] at H
        have c8b0 : decide (a1 < ((rd_T38 l0 x9_1).f1)) = false := decide_eq_false c8
        clear c8
        have hm1_1 := Aside0.mk trivial
      case' n5_ =>
       rw [if_neg c7] at H
       have c7b0 : decide (((rd_T38 l0 x9_1).f0) ≤ a1) = false := decide_eq_false c7
       clear c7
       have hm1_1 := Aside0.mk trivial
     case' n4_ =>
      rw [if_neg c6] at H
      exact absurd H (by simp)
    case' n3_ =>
     rw [if_neg c5] at H
     exact absurd H (by simp)
   case' n2_ =>
    rw [if_neg c4] at H
    have c4b0 : decide (x9_1 < (l0.length : Int)) = false := decide_eq_false c4
    clear c4
    simp only [Option.some.injEq, Prod.mk.injEq] at H
    obtain ⟨rfl, rfl, rfl, rfl, rfl⟩ := H
    have hm1_2 := Aside0.mk trivial
   all_goals
    first
     | clear hm1_0
       go_wp2_with (first | ((with_reducible refine gate_dst (N := 6) rfl ?_); refine box_event ?hg (N := 6) ?hd (cs := #[.int .i64 0, .int .i64 0, .int .i64 0, .int .i64 0, .int .i64 0]) (t := 38) ?hr ?_; (case hd => rfl); (case hg => rfl); (case hr => first | (go_simp; done) | (go_simp; rfl)); intro gb142 hg wx84601 hbox hb; have n0_ := Aside0.mk (blk_below (g := gb140) (o := .cells #[.int .i64 x141000_1, .int .i64 x141001_1, .int .i64 x141002_1, .int .i64 x141003_1, .int .i64 x141004_1] 38 (0, 0)) (by (with_reducible repeat (first | refine blk_drewN ?_ _ | refine blk_drew ?_ | refine blk_alloc ?_ _)); exact BK140.out) hb); have n1_ := Aside0.mk (below_step (by repeat (first | (with_reducible first | exact HB.out | apply below_alloc | apply pw_below_drewN | apply below_drew1 | refine below_set ?_ GE140.out) | exact HB.out)) hb); have n2_ := Aside0.mk (hbox); have n3_ := Aside0.mk ((by rw [hg]; exact (below_size (by repeat (first | (with_reducible first | exact HB.out | apply below_alloc | apply pw_below_drewN | apply below_drew1 | refine below_set ?_ GE140.out) | exact HB.out))) : w.heap.size ≤ gb142)); have n4_ := Aside0.mk ((by rw [hg]; exact (below_size (by repeat (first | (with_reducible first | exact HB.out | apply below_alloc | apply pw_below_drewN | apply below_drew1 | refine below_set ?_ GE140.out) | exact HB.out))) : w.heap.size ≤ gb142)); have n5_ := Aside0.mk ((by rw [hg]; exact Nat.ne_of_lt (blk_lt (g := gb140) (o := .cells #[.int .i64 x141000_1, .int .i64 x141001_1, .int .i64 x141002_1, .int .i64 x141003_1, .int .i64 x141004_1] 38 (0, 0)) (by (with_reducible repeat (first | refine blk_drewN ?_ _ | refine blk_drew ?_ | refine blk_alloc ?_ _)); exact BK140.out)) : gb140 ≠ gb142)); have n6_ := Aside0.mk ((by rw [hg]; exact Nat.ne_of_gt (blk_lt (g := gb140) (o := .cells #[.int .i64 x141000_1, .int .i64 x141001_1, .int .i64 x141002_1, .int .i64 x141003_1, .int .i64 x141004_1] 38 (0, 0)) (by (with_reducible repeat (first | refine blk_drewN ?_ _ | refine blk_drew ?_ | refine blk_alloc ?_ _)); exact BK140.out)) : gb142 ≠ gb140)); clear BK140; clear HB; have BK140 := n0_; have HB := n1_; have BK142 := n2_; have GW142 := n3_; have GE142 := n4_; have NB140_142 := n5_; have NB142_140 := n6_; clear n0_ n1_ n2_ n3_ n4_ n5_ n6_; clear hb hbox hg; have hnbx84601 := NB142_140.out; have hncx84601 := NB140_142.out; have hczx84601 : wx84601.cell? ⟨gb142, 0, none⟩ = some (.int .i64 0) := (blk_cell BK142.out 0).trans rfl; have hczx84602 : wx84601.cell? ⟨gb142, 1, none⟩ = some (.int .i64 0) := (blk_cell BK142.out 1).trans rfl; have hczx84603 : wx84601.cell? ⟨gb142, 2, none⟩ = some (.int .i64 0) := (blk_cell BK142.out 2).trans rfl; have hczx84604 : wx84601.cell? ⟨gb142, 3, none⟩ = some (.int .i64 0) := (blk_cell BK142.out 3).trans rfl; have hczx84605 : wx84601.cell? ⟨gb142, 4, none⟩ = some (.int .i64 0) := (blk_cell BK142.out 4).trans rfl; have hfzx84601 := blk_frozen BK142.out 0; have hfzx84602 := blk_frozen BK142.out 1; have hfzx84603 := blk_frozen BK142.out 2; have hfzx84604 := blk_frozen BK142.out 3; have hfzx84605 := blk_frozen BK142.out 4; have hczx84606 : wx84601.cell? ⟨gb140, 0, none⟩ = some (.int .i64 x141000_1) := (blk_cell BK140.out 0).trans rfl; have hczx84607 : wx84601.cell? ⟨gb140, 1, none⟩ = some (.int .i64 x141001_1) := (blk_cell BK140.out 1).trans rfl; have hczx84608 : wx84601.cell? ⟨gb140, 2, none⟩ = some (.int .i64 x141002_1) := (blk_cell BK140.out 2).trans rfl; have hczx84609 : wx84601.cell? ⟨gb140, 3, none⟩ = some (.int .i64 x141003_1) := (blk_cell BK140.out 3).trans rfl; have hczx846010 : wx84601.cell? ⟨gb140, 4, none⟩ = some (.int .i64 x141004_1) := (blk_cell BK140.out 4).trans rfl; have hfzx84606 := blk_frozen BK140.out 0; have hfzx84607 := blk_frozen BK140.out 1; have hfzx84608 := blk_frozen BK140.out 2; have hfzx84609 := blk_frozen BK140.out 3; have hfzx846010 := blk_frozen BK140.out 4))
       refine bodyPost_ret (results_cell_row rfl _ _ gb140 38 #[.int .i64 ((rd_T38 l0 x9_1).f0), .int .i64 ((rd_T38 l0 x9_1).f1), .int .i64 ((rd_T38 l0 x9_1).f2.f0), .int .i64 ((rd_T38 l0 x9_1).f2.f1), .int .i64 ((rd_T38 l0 x9_1).f3)] (0, 0) _ rfl (by (with_reducible repeat (first | refine blk_drewN ?_ _ | refine blk_drew ?_ | refine blk_alloc ?_ _)); refine blk_put (cs := #[.int .i64 ((rd_T38 l0 x9_1).f0), .int .i64 ((rd_T38 l0 x9_1).f1), .int .i64 ((rd_T38 l0 x9_1).f2.f0), .int .i64 ((rd_T38 l0 x9_1).f2.f1), .int .i64 x141004_1]) ?_ 4 _ rfl; (with_reducible repeat (first | refine blk_drewN ?_ _ | refine blk_drew ?_ | refine blk_alloc ?_ _)); refine blk_put (cs := #[.int .i64 ((rd_T38 l0 x9_1).f0), .int .i64 ((rd_T38 l0 x9_1).f1), .int .i64 ((rd_T38 l0 x9_1).f2.f0), .int .i64 x141003_1, .int .i64 x141004_1]) ?_ 3 _ rfl; (with_reducible repeat (first | refine blk_drewN ?_ _ | refine blk_drew ?_ | refine blk_alloc ?_ _)); refine blk_put (cs := #[.int .i64 ((rd_T38 l0 x9_1).f0), .int .i64 ((rd_T38 l0 x9_1).f1), .int .i64 x141002_1, .int .i64 x141003_1, .int .i64 x141004_1]) ?_ 2 _ rfl; (with_reducible repeat (first | refine blk_drewN ?_ _ | refine blk_drew ?_ | refine blk_alloc ?_ _)); refine blk_put (cs := #[.int .i64 ((rd_T38 l0 x9_1).f0), .int .i64 x141001_1, .int .i64 x141002_1, .int .i64 x141003_1, .int .i64 x141004_1]) ?_ 1 _ rfl; (with_reducible repeat (first | refine blk_drewN ?_ _ | refine blk_drew ?_ | refine blk_alloc ?_ _)); refine blk_put (cs := #[.int .i64 x141000_1, .int .i64 x141001_1, .int .i64 x141002_1, .int .i64 x141003_1, .int .i64 x141004_1]) ?_ 0 _ rfl; (with_reducible repeat (first | refine blk_drewN ?_ _ | refine blk_drew ?_ | refine blk_alloc ?_ _)); refine blk_far ?_ NB140_142.out _; (with_reducible repeat (first | refine blk_drewN ?_ _ | refine blk_drew ?_ | refine blk_alloc ?_ _)); refine blk_far ?_ NB140_142.out _; (with_reducible repeat (first | refine blk_drewN ?_ _ | refine blk_drew ?_ | refine blk_alloc ?_ _)); refine blk_far ?_ NB140_142.out _; (with_reducible repeat (first | refine blk_drewN ?_ _ | refine blk_drew ?_ | refine blk_alloc ?_ _)); refine blk_far ?_ NB140_142.out _; (with_reducible repeat (first | refine blk_drewN ?_ _ | refine blk_drew ?_ | refine blk_alloc ?_ _)); refine blk_far ?_ NB140_142.out _; (with_reducible repeat (first | refine blk_drewN ?_ _ | refine blk_drew ?_ | refine blk_alloc ?_ _)); exact BK140.out) Tryd.underlying38 rfl (by kernel_rfl)) rfl ?_
       exact ⟨by first | rfl | (simp [errW_none, errW_some] <;> rfl) | (simp [*, errW_none, errW_some] <;> rfl), by repeat (first | (with_reducible first | exact HB.out | apply below_alloc | apply pw_below_drewN | apply below_drew1 | refine below_set ?_ GE140.out | refine below_set ?_ GE142.out) | exact HB.out)⟩
     | clear hm1_1
       have H' := Aside0.mk H
       clear H
       have p141 : 0 ≤ (x9_1 : Int) := of_decide_eq_true (by first | (with_reducible assumption) | assumption)
       have q141 : x9_1 < (l0.length : Int) := of_decide_eq_true (by first | (with_reducible assumption) | assumption)
       obtain ⟨ad141, e141, hx141_0, hx141_1, hx141_2, hx141_3, hx141_4⟩ := at_T38 HR0.out x9_1 p141 q141
       cases e141
       replace hx141_0 := (HB.out.cell (World.block_lt_of_cell? w _ hx141_0)).trans hx141_0
       replace hx141_1 := (HB.out.cell (World.block_lt_of_cell? w _ hx141_1)).trans hx141_1
       replace hx141_2 := (HB.out.cell (World.block_lt_of_cell? w _ hx141_2)).trans hx141_2
       replace hx141_3 := (HB.out.cell (World.block_lt_of_cell? w _ hx141_3)).trans hx141_3
       replace hx141_4 := (HB.out.cell (World.block_lt_of_cell? w _ hx141_4)).trans hx141_4
       replace p141 := eq_true p141
       replace q141 := eq_true q141
       go_wp2_with (first | ((with_reducible refine gate_dst (N := 6) rfl ?_); refine box_event ?hg (N := 6) ?hd (cs := #[.int .i64 0, .int .i64 0, .int .i64 0, .int .i64 0, .int .i64 0]) (t := 38) ?hr ?_; (case hd => rfl); (case hg => rfl); (case hr => first | (go_simp; done) | (go_simp; rfl)); intro gb142 hg wx5f7d1 hbox hb; have n0_ := Aside0.mk (blk_below (g := gb140) (o := .cells #[.int .i64 x141000_1, .int .i64 x141001_1, .int .i64 x141002_1, .int .i64 x141003_1, .int .i64 x141004_1] 38 (0, 0)) (by (with_reducible repeat (first | refine blk_drewN ?_ _ | refine blk_drew ?_ | refine blk_alloc ?_ _)); exact BK140.out) hb); have n1_ := Aside0.mk (below_step (by repeat (first | (with_reducible first | exact HB.out | apply below_alloc | apply pw_below_drewN | apply below_drew1 | refine below_set ?_ GE140.out) | exact HB.out)) hb); have n2_ := Aside0.mk (hbox); have n3_ := Aside0.mk ((by rw [hg]; exact (below_size (by repeat (first | (with_reducible first | exact HB.out | apply below_alloc | apply pw_below_drewN | apply below_drew1 | refine below_set ?_ GE140.out) | exact HB.out))) : w.heap.size ≤ gb142)); have n4_ := Aside0.mk ((by rw [hg]; exact (below_size (by repeat (first | (with_reducible first | exact HB.out | apply below_alloc | apply pw_below_drewN | apply below_drew1 | refine below_set ?_ GE140.out) | exact HB.out))) : w.heap.size ≤ gb142)); have n5_ := Aside0.mk ((by rw [hg]; exact Nat.ne_of_lt (blk_lt (g := gb140) (o := .cells #[.int .i64 x141000_1, .int .i64 x141001_1, .int .i64 x141002_1, .int .i64 x141003_1, .int .i64 x141004_1] 38 (0, 0)) (by (with_reducible repeat (first | refine blk_drewN ?_ _ | refine blk_drew ?_ | refine blk_alloc ?_ _)); exact BK140.out)) : gb140 ≠ gb142)); have n6_ := Aside0.mk ((by rw [hg]; exact Nat.ne_of_gt (blk_lt (g := gb140) (o := .cells #[.int .i64 x141000_1, .int .i64 x141001_1, .int .i64 x141002_1, .int .i64 x141003_1, .int .i64 x141004_1] 38 (0, 0)) (by (with_reducible repeat (first | refine blk_drewN ?_ _ | refine blk_drew ?_ | refine blk_alloc ?_ _)); exact BK140.out)) : gb142 ≠ gb140)); clear BK140; clear HB; have BK140 := n0_; have HB := n1_; have BK142 := n2_; have GW142 := n3_; have GE142 := n4_; have NB140_142 := n5_; have NB142_140 := n6_; clear n0_ n1_ n2_ n3_ n4_ n5_ n6_; clear hb hbox hg; have hnbx5f7d1 := NB142_140.out; have hncx5f7d1 := NB140_142.out; have hczx5f7d1 : wx5f7d1.cell? ⟨gb142, 0, none⟩ = some (.int .i64 0) := (blk_cell BK142.out 0).trans rfl; have hczx5f7d2 : wx5f7d1.cell? ⟨gb142, 1, none⟩ = some (.int .i64 0) := (blk_cell BK142.out 1).trans rfl; have hczx5f7d3 : wx5f7d1.cell? ⟨gb142, 2, none⟩ = some (.int .i64 0) := (blk_cell BK142.out 2).trans rfl; have hczx5f7d4 : wx5f7d1.cell? ⟨gb142, 3, none⟩ = some (.int .i64 0) := (blk_cell BK142.out 3).trans rfl; have hczx5f7d5 : wx5f7d1.cell? ⟨gb142, 4, none⟩ = some (.int .i64 0) := (blk_cell BK142.out 4).trans rfl; have hfzx5f7d1 := blk_frozen BK142.out 0; have hfzx5f7d2 := blk_frozen BK142.out 1; have hfzx5f7d3 := blk_frozen BK142.out 2; have hfzx5f7d4 := blk_frozen BK142.out 3; have hfzx5f7d5 := blk_frozen BK142.out 4))
       go_roundg k1
       case measure => have := HK1.out; omega
       case rel => exact ⟨(wrap64 (x9_1 + 1)), (x141000_1), (x141001_1), (x141002_1), (x141003_1), (x141004_1), (by first | rfl | (simp; done) | (simp [*]; done)), H', ⟨by have := HK1.out; omega⟩, ⟨by (with_reducible repeat (first | refine blk_drewN ?_ _ | refine blk_drew ?_ | refine blk_alloc ?_ _)); refine blk_far ?_ NB140_142.out _; (with_reducible repeat (first | refine blk_drewN ?_ _ | refine blk_drew ?_ | refine blk_alloc ?_ _)); refine blk_far ?_ NB140_142.out _; (with_reducible repeat (first | refine blk_drewN ?_ _ | refine blk_drew ?_ | refine blk_alloc ?_ _)); refine blk_far ?_ NB140_142.out _; (with_reducible repeat (first | refine blk_drewN ?_ _ | refine blk_drew ?_ | refine blk_alloc ?_ _)); refine blk_far ?_ NB140_142.out _; (with_reducible repeat (first | refine blk_drewN ?_ _ | refine blk_drew ?_ | refine blk_alloc ?_ _)); refine blk_far ?_ NB140_142.out _; (with_reducible repeat (first | refine blk_drewN ?_ _ | refine blk_drew ?_ | refine blk_alloc ?_ _)); exact BK140.out⟩, ⟨by repeat (first | (with_reducible first | exact HB.out | apply below_alloc | apply pw_below_drewN | apply below_drew1 | refine below_set ?_ GE140.out | refine below_set ?_ GE142.out) | exact HB.out)⟩⟩
     | clear hm1_2
       have hczzc1 : wr.cell? ⟨gb140, 0, none⟩ = some (.int .i64 x141000_1) := (blk_cell BK140.out 0).trans rfl
       have hczzc2 : wr.cell? ⟨gb140, 1, none⟩ = some (.int .i64 x141001_1) := (blk_cell BK140.out 1).trans rfl
       have hczzc3 : wr.cell? ⟨gb140, 2, none⟩ = some (.int .i64 x141002_1) := (blk_cell BK140.out 2).trans rfl
       have hczzc4 : wr.cell? ⟨gb140, 3, none⟩ = some (.int .i64 x141003_1) := (blk_cell BK140.out 3).trans rfl
       have hczzc5 : wr.cell? ⟨gb140, 4, none⟩ = some (.int .i64 x141004_1) := (blk_cell BK140.out 4).trans rfl
       have hfzzc1 := blk_frozen BK140.out 0
       have hfzzc2 := blk_frozen BK140.out 1
       have hfzzc3 := blk_frozen BK140.out 2
       have hfzzc4 := blk_frozen BK140.out 3
       have hfzzc5 := blk_frozen BK140.out 4
       go_wp2
       refine bodyPost_ret (results_cell_row rfl _ _ gb140 38 #[.int .i64 0, .int .i64 60001, .int .i64 0, .int .i64 0, .int .i64 0] (0, 0) _ rfl (by (with_reducible repeat (first | refine blk_drewN ?_ _ | refine blk_drew ?_ | refine blk_alloc ?_ _)); refine blk_put (cs := #[.int .i64 0, .int .i64 60001, .int .i64 0, .int .i64 0, .int .i64 x141004_1]) ?_ 4 _ rfl; (with_reducible repeat (first | refine blk_drewN ?_ _ | refine blk_drew ?_ | refine blk_alloc ?_ _)); refine blk_put (cs := #[.int .i64 0, .int .i64 60001, .int .i64 0, .int .i64 x141003_1, .int .i64 x141004_1]) ?_ 3 _ rfl; (with_reducible repeat (first | refine blk_drewN ?_ _ | refine blk_drew ?_ | refine blk_alloc ?_ _)); refine blk_put (cs := #[.int .i64 0, .int .i64 60001, .int .i64 x141002_1, .int .i64 x141003_1, .int .i64 x141004_1]) ?_ 2 _ rfl; (with_reducible repeat (first | refine blk_drewN ?_ _ | refine blk_drew ?_ | refine blk_alloc ?_ _)); refine blk_put (cs := #[.int .i64 0, .int .i64 x141001_1, .int .i64 x141002_1, .int .i64 x141003_1, .int .i64 x141004_1]) ?_ 1 _ rfl; (with_reducible repeat (first | refine blk_drewN ?_ _ | refine blk_drew ?_ | refine blk_alloc ?_ _)); refine blk_put (cs := #[.int .i64 x141000_1, .int .i64 x141001_1, .int .i64 x141002_1, .int .i64 x141003_1, .int .i64 x141004_1]) ?_ 0 _ rfl; (with_reducible repeat (first | refine blk_drewN ?_ _ | refine blk_drew ?_ | refine blk_alloc ?_ _)); exact BK140.out) Tryd.underlying38 rfl (by kernel_rfl)) rfl ?_
       exact ⟨by first | rfl | (simp [errW_none, errW_some] <;> rfl) | (simp [*, errW_none, errW_some] <;> rfl), by repeat (first | (with_reducible first | exact HB.out | apply below_alloc | apply pw_below_drewN | apply below_drew1 | refine below_set ?_ GE140.out) | exact HB.out)⟩

/-! ### wind_Leg: function 21 -/
mutual
def wind_Leg.j0 : Nat → List (S38) → Int → Int → Bool → Int → Int → Int → Int → Option (Int × Int × Int)
  | 0, _, _, _, _, _, _, _, _ => none
  | k + 1, x0, x1, x2, x43, x144000, x144001, x145000, x145001 => if x43 = true then (some (0, 0, 4)) else ((some (([(⟨x144000, x144001⟩ : S28), (⟨x145000, x145001⟩ : S28)] : List (S28)) : List (S28))).bind fun y146 => (wind_Leg.l0 k x0 x1 x2 y146 (y146.length : Int) 0 x144000 x144001 x145000 x145001))
def wind_Leg.l0 : Nat → List (S38) → Int → Int → List (S28) → Int → Int → Int → Int → Int → Int → Option (Int × Int × Int)
  | 0, _, _, _, _, _, _, _, _, _, _ => none
  | k + 1, x0, x1, x2, x46, x47, x48, x144000, x144001, x145000, x145001 => if x48 < x47 then (if 0 ≤ x48 then (if x48 < (x46.length : Int) then ((plane_Check.f ((rd_T28 x46 x48).f0) ((rd_T28 x46 x48).f1)).bind fun t151 => (if t151 = 0 then (wind_Leg.l0 k x0 x1 x2 x46 x47 (wrap64 (x48 + 1)) x144000 x144001 x145000 x145001) else (some (0, 0, t151)))) else (none)) else (none)) else (if (x144000 == x145000 && (x144001 == x145001)) = true then (some (0, 0, 0)) else ((plane_Sub.f x145000 x145001 x144000 x144001).bind fun bt152 => ((angle_Of.f bt152.1 bt152.2).bind fun bt154 => ((wind_at.f k x0 x2).bind fun bt156 => ((wind_ground.f k x1 bt154.1 bt156.1 bt156.2.1 bt156.2.2.1 bt156.2.2.2.1 bt156.2.2.2.2).bind fun bt161 => ((plane_Distance.f x144000 x144001 x145000 x145001).bind fun bt163 => ((num_DivUp.f k bt163.2 bt161.1).bind fun bt165 => (if bt161.2 = 0 then (none) else (some (wrap64 (Int.tdiv bt163.1 bt161.2), bt165.1, 0))))))))))
end
def wind_Leg.f (k : Nat) (l0 : List (S38)) (a1 : Int) (a2 : Int) (a3_0 : Int) (a3_1 : Int) (a4_0 : Int) (a4_1 : Int) : Option (Int × Int × Int) := (wind_Check.f k l0).bind fun t145 => (if t145 = 0 then (if a1 < 1 then (wind_Leg.j0 k l0 a1 a2 true a3_0 a3_1 a4_0 a4_1) else (if a1 > 400 then (wind_Leg.j0 k l0 a1 a2 true a3_0 a3_1 a4_0 a4_1) else (if a2 < 0 then (wind_Leg.j0 k l0 a1 a2 true a3_0 a3_1 a4_0 a4_1) else (wind_Leg.j0 k l0 a1 a2 (decide (a2 > 60000)) a3_0 a3_1 a4_0 a4_1)))) else (some (0, 0, t145)))
theorem wind_Leg.mono_l : ∀ k, (∀ y0 y1 y2 y3 y4 y5 y6 y7, LeO (wind_Leg.j0 k y0 y1 y2 y3 y4 y5 y6 y7) (wind_Leg.j0 (k + 1) y0 y1 y2 y3 y4 y5 y6 y7)) ∧ (∀ y0 y1 y2 y3 y4 y5 y6 y7 y8 y9, LeO (wind_Leg.l0 k y0 y1 y2 y3 y4 y5 y6 y7 y8 y9) (wind_Leg.l0 (k + 1) y0 y1 y2 y3 y4 y5 y6 y7 y8 y9))
  | 0 => ⟨fun _ _ _ _ _ _ _ _ r h => by simp [wind_Leg.j0] at h, fun _ _ _ _ _ _ _ _ _ _ r h => by simp [wind_Leg.l0] at h⟩
  | k + 1 => by
    obtain ⟨ih0, ih1⟩ := wind_Leg.mono_l k
    refine ⟨?_, ?_⟩
    · intro y0 y1 y2 y3 y4 y5 y6 y7
      unfold wind_Leg.j0
      repeat' first
      | (with_reducible exact ih0 _ _ _ _ _ _ _ _)
      | (with_reducible exact ih1 _ _ _ _ _ _ _ _ _ _)
      | (with_reducible exact num_DivUp.mono _ _ _)
      | (with_reducible exact wind_Check.mono _ _)
      | (with_reducible exact wind_at.mono _ _ _)
      | (with_reducible exact wind_ground.mono _ _ _ _ _ _ _ _)
      | (with_reducible exact LeO.refl _)
      | (with_reducible exact LeO.none _)
      | (with_reducible refine LeO.ite ?_ ?_)
      | (with_reducible refine LeO.bind ?_ (fun _ => ?_))
      | exact ih0 _ _ _ _ _ _ _ _
      | exact ih1 _ _ _ _ _ _ _ _ _ _
      | exact num_DivUp.mono _ _ _
      | exact wind_Check.mono _ _
      | exact wind_at.mono _ _ _
      | exact wind_ground.mono _ _ _ _ _ _ _ _
      | exact LeO.none _
      | refine LeO.ite ?_ ?_
      | refine LeO.bind ?_ (fun _ => ?_)
    · intro y0 y1 y2 y3 y4 y5 y6 y7 y8 y9
      unfold wind_Leg.l0
      repeat' first
      | (with_reducible exact ih0 _ _ _ _ _ _ _ _)
      | (with_reducible exact ih1 _ _ _ _ _ _ _ _ _ _)
      | (with_reducible exact num_DivUp.mono _ _ _)
      | (with_reducible exact wind_Check.mono _ _)
      | (with_reducible exact wind_at.mono _ _ _)
      | (with_reducible exact wind_ground.mono _ _ _ _ _ _ _ _)
      | (with_reducible exact LeO.refl _)
      | (with_reducible exact LeO.none _)
      | (with_reducible refine LeO.ite ?_ ?_)
      | (with_reducible refine LeO.bind ?_ (fun _ => ?_))
      | exact ih0 _ _ _ _ _ _ _ _
      | exact ih1 _ _ _ _ _ _ _ _ _ _
      | exact num_DivUp.mono _ _ _
      | exact wind_Check.mono _ _
      | exact wind_at.mono _ _ _
      | exact wind_ground.mono _ _ _ _ _ _ _ _
      | exact LeO.none _
      | refine LeO.ite ?_ ?_
      | refine LeO.bind ?_ (fun _ => ?_)
theorem wind_Leg.mono : ∀ a0 a1 a2 a3 a4 a5 a6 k, LeO (wind_Leg.f k a0 a1 a2 a3 a4 a5 a6) (wind_Leg.f (k + 1) a0 a1 a2 a3 a4 a5 a6) := by
  intro a0 a1 a2 a3 a4 a5 a6 k
  obtain ⟨ih0, ih1⟩ := wind_Leg.mono_l k
  unfold wind_Leg.f
  repeat' first
      | (with_reducible exact ih0 _ _ _ _ _ _ _ _)
      | (with_reducible exact ih1 _ _ _ _ _ _ _ _ _ _)
      | (with_reducible exact num_DivUp.mono _ _ _)
      | (with_reducible exact wind_Check.mono _ _)
      | (with_reducible exact wind_at.mono _ _ _)
      | (with_reducible exact wind_ground.mono _ _ _ _ _ _ _ _)
      | (with_reducible exact LeO.refl _)
      | (with_reducible exact LeO.none _)
      | (with_reducible refine LeO.ite ?_ ?_)
      | (with_reducible refine LeO.bind ?_ (fun _ => ?_))
      | exact ih0 _ _ _ _ _ _ _ _
      | exact ih1 _ _ _ _ _ _ _ _ _ _
      | exact num_DivUp.mono _ _ _
      | exact wind_Check.mono _ _
      | exact wind_at.mono _ _ _
      | exact wind_ground.mono _ _ _ _ _ _ _ _
      | exact LeO.none _
      | refine LeO.ite ?_ ?_
      | refine LeO.bind ?_ (fun _ => ?_)
set_option maxHeartbeats 8000000 in
set_option maxRecDepth 100000 in
theorem wind_Leg.calls (k : Nat) (A0 : Option Addr) (c0 : Nat) (l0 : List (S38)) (a1 : Int) (a2 : Int) (a3_0 : Int) (a3_1 : Int) (a4_0 : Int) (a4_1 : Int) (r1 : Int) (r2 : Int) (r3 : Int) (w : World) (hr0 : Kd.C k38 w A0 l0.length l0) (hc0 : l0.length ≤ c0) (h : wind_Leg.f k l0 a1 a2 a3_0 a3_1 a4_0 a4_1 = some (r1, r2, r3)) (hT0 : Ang.Tab w := by exact Ang.Tab.below hT0 (by repeat (first | (with_reducible first | exact HB.out | apply below_alloc | apply pw_below_drewN | apply below_drew1) | exact HB.out | (refine Below.setCell ?_ (by dsimp only; exact Aside0.out (by assumption)) _)))) :
    Calls Tryd.prog 21 #[.slice A0 l0.length c0, .int .i64 a1, .int .i64 a2, .agg #[.int .i64 a3_0, .int .i64 a3_1], .agg #[.int .i64 a4_0, .int .i64 a4_1]] w fun e w' => e = .returned (.tuple #[.int .i64 r1, .int .i64 r2, .int .i64 r3]) ∧ Below w.heap.size w w' := by
 have hu28 := Tryd.underlying28
 have HR0 := Aside0.mk hr0
 have HC0 := Aside0.mk hc0
 clear hr0 hc0
 have HB := Aside0.mk (Below.refl w.heap.size w)
 have H : ((wind_Check.f k l0).bind fun t145 => (if t145 = 0 then (if a1 < 1 then (wind_Leg.j0 k l0 a1 a2 true a3_0 a3_1 a4_0 a4_1) else (if a1 > 400 then (wind_Leg.j0 k l0 a1 a2 true a3_0 a3_1 a4_0 a4_1) else (if a2 < 0 then (wind_Leg.j0 k l0 a1 a2 true a3_0 a3_1 a4_0 a4_1) else (wind_Leg.j0 k l0 a1 a2 (decide (a2 > 60000)) a3_0 a3_1 a4_0 a4_1)))) else (some (0, 0, t145)))) = some (r1, r2, r3) := h
 clear h
 replace H := Option.bind_eq_some_iff.mp H
 obtain ⟨t145, A60, H⟩ := H
 replace H : (if t145 = 0 then (if a1 < 1 then (wind_Leg.j0 k l0 a1 a2 true a3_0 a3_1 a4_0 a4_1) else (if a1 > 400 then (wind_Leg.j0 k l0 a1 a2 true a3_0 a3_1 a4_0 a4_1) else (if a2 < 0 then (wind_Leg.j0 k l0 a1 a2 true a3_0 a3_1 a4_0 a4_1) else (wind_Leg.j0 k l0 a1 a2 (decide (a2 > 60000)) a3_0 a3_1 a4_0 a4_1)))) else (some (0, 0, t145))) = some (r1, r2, r3) := H
 have A6 := Aside0.mk A60
 clear A60
 refine Or.elim (Classical.em (t145 = 0)) (fun c7 => ?p2_) (fun c7 => ?n2_)
 case' p2_ =>
  rw [if_pos c7] at H
  have c7b0 : (t145 == 0) = true := beq_iff_eq.mpr c7
  have c7b1 : (t145 != 0) = false := bne_eq_false_iff_eq.mpr c7
  clear c7
  have HC8 := Aside0.mk H
  clear H
  have hm1_0 := Aside0.mk trivial
 case' n2_ =>
  rw [if_neg c7] at H
  have c7b0 : (t145 == 0) = false := beq_eq_false_iff_ne.mpr c7
  have c7b1 : (t145 != 0) = true := bne_iff_ne.mpr c7
  simp only [Option.some.injEq, Prod.mk.injEq] at H
  obtain ⟨rfl, rfl, rfl⟩ := H
  have hm1_1 := Aside0.mk trivial
 all_goals
  go_enter Tryd.func21, Tryd.ntmps21
  first
   | clear hm1_0
     go_upto_region 4 with (first | ((with_reducible refine gate_dst (N := 8) rfl ?_); refine box_event ?hg (N := 8) ?hd (cs := #[.int .i64 a3_0, .int .i64 a3_1]) (t := 28) ?hr ?_; (case hd => rfl); (case hg => rfl); (case hr => first | (go_simp; done) | (go_simp; rfl)); intro gb143 hg wxdcbd1 hbox hb; have n0_ := Aside0.mk (below_step (by repeat (first | (with_reducible first | exact HB.out | apply below_alloc | apply pw_below_drewN | apply below_drew1) | exact HB.out)) hb); have n1_ := Aside0.mk (hbox); have n2_ := Aside0.mk ((by rw [hg]; exact (below_size (by repeat (first | (with_reducible first | exact HB.out | apply below_alloc | apply pw_below_drewN | apply below_drew1) | exact HB.out))) : w.heap.size ≤ gb143)); have n3_ := Aside0.mk ((by rw [hg]; exact (below_size (by repeat (first | (with_reducible first | exact HB.out | apply below_alloc | apply pw_below_drewN | apply below_drew1) | exact HB.out))) : w.heap.size ≤ gb143)); clear HB; have HB := n0_; have BK143 := n1_; have GW143 := n2_; have GE143 := n3_; clear n0_ n1_ n2_ n3_; clear hb hbox hg) | ((with_reducible refine gate_dst (N := 9) rfl ?_); refine box_event ?hg (N := 9) ?hd (cs := #[.int .i64 a4_0, .int .i64 a4_1]) (t := 28) ?hr ?_; (case hd => rfl); (case hg => rfl); (case hr => first | (go_simp; done) | (go_simp; rfl)); intro gb144 hg wx8d3b1 hbox hb; have n0_ := Aside0.mk (blk_below (g := gb143) (o := .cells #[.int .i64 a3_0, .int .i64 a3_1] 28 (0, 0)) (by (with_reducible repeat (first | refine blk_drewN ?_ _ | refine blk_drew ?_ | refine blk_alloc ?_ _)); exact BK143.out) hb); have n1_ := Aside0.mk (below_step (by repeat (first | (with_reducible first | exact HB.out | apply below_alloc | apply pw_below_drewN | apply below_drew1 | refine below_set ?_ GE143.out) | exact HB.out)) hb); have n2_ := Aside0.mk (hbox); have n3_ := Aside0.mk ((by rw [hg]; exact (below_size (by repeat (first | (with_reducible first | exact HB.out | apply below_alloc | apply pw_below_drewN | apply below_drew1 | refine below_set ?_ GE143.out) | exact HB.out))) : w.heap.size ≤ gb144)); have n4_ := Aside0.mk ((by rw [hg]; exact (below_size (by repeat (first | (with_reducible first | exact HB.out | apply below_alloc | apply pw_below_drewN | apply below_drew1 | refine below_set ?_ GE143.out) | exact HB.out))) : w.heap.size ≤ gb144)); have n5_ := Aside0.mk ((by rw [hg]; exact Nat.ne_of_lt (blk_lt (g := gb143) (o := .cells #[.int .i64 a3_0, .int .i64 a3_1] 28 (0, 0)) (by (with_reducible repeat (first | refine blk_drewN ?_ _ | refine blk_drew ?_ | refine blk_alloc ?_ _)); exact BK143.out)) : gb143 ≠ gb144)); have n6_ := Aside0.mk ((by rw [hg]; exact Nat.ne_of_gt (blk_lt (g := gb143) (o := .cells #[.int .i64 a3_0, .int .i64 a3_1] 28 (0, 0)) (by (with_reducible repeat (first | refine blk_drewN ?_ _ | refine blk_drew ?_ | refine blk_alloc ?_ _)); exact BK143.out)) : gb144 ≠ gb143)); clear BK143; clear HB; have BK143 := n0_; have HB := n1_; have BK144 := n2_; have GW144 := n3_; have GE144 := n4_; have NB143_144 := n5_; have NB144_143 := n6_; clear n0_ n1_ n2_ n3_ n4_ n5_ n6_; clear hb hbox hg) | ((with_reducible refine gate_callee (f := 31) rfl ?_); refine goesL_ (some 26) rfl rfl Tryd.func31 (by kernel_rfl) rfl #[.slice A0 l0.length c0] rfl (by (try simp only [List.map_toArray, List.map_cons, List.map_nil]); first | done | rfl | (simp only [List.length_drop, List.length_take]; rfl)) ?_; (with_reducible refine (wind_Check.calls k _ _ l0 t145 _ ?side1 ?side2 A6.out).mono ?_); (case side1 => repeat (first | exact (Kd.C_below HR0.out HB.out) | (with_reducible refine Kd.C_alloc ?_ _) | (with_reducible refine Kd.C_drewN ?_ _) | (with_reducible refine Kd.C_drew ?_))); (case side2 => exact HC0.out); rintro e wx662a1 ⟨rfl, hb⟩; refine ⟨_, rfl, ?_⟩; have n0_ := Aside0.mk (blk_below (g := gb143) (o := .cells #[.int .i64 a3_0, .int .i64 a3_1] 28 (0, 0)) (by (with_reducible repeat (first | refine blk_drewN ?_ _ | refine blk_drew ?_ | refine blk_alloc ?_ _)); exact BK143.out) hb); have n1_ := Aside0.mk (blk_below (g := gb144) (o := .cells #[.int .i64 a4_0, .int .i64 a4_1] 28 (0, 0)) (by (with_reducible repeat (first | refine blk_drewN ?_ _ | refine blk_drew ?_ | refine blk_alloc ?_ _)); exact BK144.out) hb); have n2_ := Aside0.mk (below_step (by repeat (first | (with_reducible first | exact HB.out | apply below_alloc | apply pw_below_drewN | apply below_drew1 | refine below_set ?_ GE143.out | refine below_set ?_ GE144.out) | exact HB.out)) hb); clear BK143; clear BK144; clear HB; have BK143 := n0_; have BK144 := n1_; have HB := n2_; clear n0_ n1_ n2_; (try clear hb); (try clear hb2); (try clear hk); (try clear hi)))
     (try simp only [Act.put, List.setIfInBounds_toArray, List.set_cons_zero, List.set_cons_succ])
     go_cut [43] (fun v43 wc => ∃ (kq : Nat) (x43_7 : Bool), v43 = .bool x43_7 ∧ Aside0 (wind_Leg.j0 kq l0 a1 a2 x43_7 a3_0 a3_1 a4_0 a4_1 = some (r1, r2, r3)) ∧ Aside0 (kq ≤ k) ∧ Aside0 (wc.heap[gb143]? = some (.cells #[.int .i64 a3_0, .int .i64 a3_1] 28 (0, 0))) ∧ Aside0 (wc.heap[gb144]? = some (.cells #[.int .i64 a4_0, .int .i64 a4_1] 28 (0, 0))) ∧ Aside0 (Below w.heap.size w wc))
     case first =>
      have H := HC8.out
      clear HC8
      refine Or.elim (Classical.em (a1 < 1)) (fun c12 => ?p4_) (fun c12 => ?n4_)
      case' p4_ =>
       rw [if_pos c12] at H
       have c12b0 : decide (a1 < 1) = true := decide_eq_true c12
       clear c12
       (first | rw [c12b0] | (simp only [i64_w, i32_w]; rw [c12b0]) | skip)
      case' n4_ =>
       rw [if_neg c12] at H
       have c12b0 : decide (a1 < 1) = false := decide_eq_false c12
       clear c12
       (first | rw [c12b0] | (simp only [i64_w, i32_w]; rw [c12b0]) | skip)
       refine Or.elim (Classical.em (a1 > 400)) (fun c13 => ?p5_) (fun c13 => ?n5_)
       case' p5_ =>
        rw [if_pos c13] at H
        have c13b0 : decide (400 < a1) = true := decide_eq_true c13
        clear c13
       case' n5_ =>
        rw [if_neg c13] at H
        have c13b0 : decide (400 < a1) = false := decide_eq_false c13
        clear c13
        refine Or.elim (Classical.em (a2 < 0)) (fun c14 => ?p6_) (fun c14 => ?n6_)
        case' p6_ =>
         rw [if_pos c14] at H
         have c14b0 : decide (a2 < 0) = true := decide_eq_true c14
         clear c14
        case' n6_ =>
         rw [if_neg c14] at H
         have c14b0 : decide (a2 < 0) = false := decide_eq_false c14
         clear c14
      all_goals
       have H' := Aside0.mk H
       clear H
       go_wp2
       go_meet
       case rel => first | (exact ⟨_, (true), (by first | rfl | (simp; done) | (simp [*]; done)), H', ⟨by first | omega | exact Nat.le_refl _⟩, ⟨by (with_reducible repeat (first | refine blk_drewN ?_ _ | refine blk_drew ?_ | refine blk_alloc ?_ _)); exact BK143.out⟩, ⟨by (with_reducible repeat (first | refine blk_drewN ?_ _ | refine blk_drew ?_ | refine blk_alloc ?_ _)); exact BK144.out⟩, ⟨by repeat (first | (with_reducible first | exact HB.out | apply below_alloc | apply pw_below_drewN | apply below_drew1 | refine below_set ?_ GE143.out | refine below_set ?_ GE144.out) | exact HB.out)⟩⟩) | (exact ⟨_, (decide (a2 > 60000)), (by first | rfl | (simp; done) | (simp [*]; done)), H', ⟨by first | omega | exact Nat.le_refl _⟩, ⟨by (with_reducible repeat (first | refine blk_drewN ?_ _ | refine blk_drew ?_ | refine blk_alloc ?_ _)); exact BK143.out⟩, ⟨by (with_reducible repeat (first | refine blk_drewN ?_ _ | refine blk_drew ?_ | refine blk_alloc ?_ _)); exact BK144.out⟩, ⟨by repeat (first | (with_reducible first | exact HB.out | apply below_alloc | apply pw_below_drewN | apply below_drew1 | refine below_set ?_ GE143.out | refine below_set ?_ GE144.out) | exact HB.out)⟩⟩)
     case rest =>
      clear HC8
      (try clear c1); (try clear c2); (try clear p2); (try clear c3); (try clear c7); (try clear c7b0); (try clear c7b1); (try clear c12); (try clear c12b0); (try clear c13); (try clear c13b0); (try clear c14); (try clear c14b0)
      obtain ⟨kq, x43_7, rfl, HA, HJ7, BK143, BK144, HB⟩ := hcut
      cases kq with
      | zero => exact absurd HA.out (by simp [wind_Leg.j0])
      | succ kj7 =>
       have H := HA.out
       clear HA
       simp only [wind_Leg.j0] at H
       by_cases c15 : x43_7 = true
       · subst c15
         have H1 : (some (0, 0, 4)) = some (r1, r2, r3) := by rw [if_pos rfl] at H; exact H
         clear H
         have H := H1
         clear H1
         simp only [Option.some.injEq, Prod.mk.injEq] at H
         obtain ⟨rfl, rfl, rfl⟩ := H
         go_wp2
         go_ret3
         exact ⟨by first | rfl | (simp [errW_none, errW_some] <;> rfl) | (simp [*, errW_none, errW_some] <;> rfl), by repeat (first | (with_reducible first | exact HB.out | apply below_alloc | apply pw_below_drewN | apply below_drew1 | refine below_set ?_ GE143.out | refine below_set ?_ GE144.out) | exact HB.out)⟩
       · replace c15 := Bool.eq_false_iff.mpr c15
         subst c15
         have H1 : ((some (([(⟨a3_0, a3_1⟩ : S28), (⟨a4_0, a4_1⟩ : S28)] : List (S28)) : List (S28))).bind fun y146 => (wind_Leg.l0 kj7 l0 a1 a2 y146 (y146.length : Int) 0 a3_0 a3_1 a4_0 a4_1)) = some (r1, r2, r3) := by rw [if_neg (show ¬ (false = true) by decide)] at H; exact H
         clear H
         have H := H1
         clear H1
         obtain ⟨y146, hy146⟩ : ∃ y_ : List (S28), y_ = (([(⟨a3_0, a3_1⟩ : S28), (⟨a4_0, a4_1⟩ : S28)] : List (S28))) := ⟨_, rfl⟩
         replace H : (wind_Leg.l0 kj7 l0 a1 a2 y146 (y146.length : Int) 0 a3_0 a3_1 a4_0 a4_1) = some (r1, r2, r3) := by first | (rw [hy146]; with_reducible exact H) | (have H2_ := (Option.bind_some _ _).symm.trans H; rw [hy146]; with_reducible exact H2_) | (have H2_ := (Option.bind_some _ _).symm.trans H; with_reducible exact H2_) | with_reducible exact H | (rw [hy146]; exact H) | exact H
         have Ny146 := Aside0.mk hy146
         clear hy146
         have H' := Aside0.mk H
         clear H
         have hnbzc1 := NB143_144.out
         have hnczc1 := NB144_143.out
         have hczzc1 : wc.cell? ⟨gb143, 0, none⟩ = some (.int .i64 a3_0) := (blk_cell BK143.out 0).trans rfl
         have hczzc2 : wc.cell? ⟨gb143, 1, none⟩ = some (.int .i64 a3_1) := (blk_cell BK143.out 1).trans rfl
         have hfzzc1 := blk_frozen BK143.out 0
         have hfzzc2 := blk_frozen BK143.out 1
         have hczzc3 : wc.cell? ⟨gb144, 0, none⟩ = some (.int .i64 a4_0) := (blk_cell BK144.out 0).trans rfl
         have hczzc4 : wc.cell? ⟨gb144, 1, none⟩ = some (.int .i64 a4_1) := (blk_cell BK144.out 1).trans rfl
         have hfzzc3 := blk_frozen BK144.out 0
         have hfzzc4 := blk_frozen BK144.out 1
         go_wp2_with (first | ((with_reducible refine gate_dst (N := 46) rfl ?_); refine Kd.R_lit k28 _ 28 ?hg (N := 46) ?hd (xs := ([(⟨a3_0, a3_1⟩ : S28), (⟨a4_0, a4_1⟩ : S28)] : List (S28))) (inner := [.int .i64 a3_0, .int .i64 a3_1, .int .i64 a4_0, .int .i64 a4_1]) (ok := fun _ => True) (okp := fun _ => True) ?hr ?hp (fun _ hk => hk) trivial (Below.refl _ _) (Nat.le_refl _) (by simp) ?_; (case hd => rfl); (case hg => rfl); (case hr => first | (go_simp; done) | (go_simp; rfl)); (case hp => exact (Reps.c2 (show Kd.M k28 _ _ _ (⟨a3_0, a3_1⟩ : S28) [.int .i64 a3_0, .int .i64 a3_1] from (k28_mkM _ _ _ (⟨a3_0, a3_1⟩ : S28) )) (Reps.c2 (show Kd.M k28 _ _ _ (⟨a4_0, a4_1⟩ : S28) [.int .i64 a4_0, .int .i64 a4_1] from (k28_mkM _ _ _ (⟨a4_0, a4_1⟩ : S28) )) (Reps.none _ _)))); intro v147 wxa9f81 hoxa9f81 hb hg_ hnew_; clear hg_ hnew_; (first | rw [← Ny146.out] at hoxa9f81 | (simp only [Int.reduceToNat] at hoxa9f81; rw [← Ny146.out] at hoxa9f81)); have n0_ := Aside0.mk (Kd.R_lower (Kd.R_newB (Kd.R_newB hoxa9f81 (g := gb143) (o := .cells #[.int .i64 a3_0, .int .i64 a3_1] 28 (0, 0)) (by (with_reducible repeat (first | refine blk_drewN ?_ _ | refine blk_drew ?_ | refine blk_alloc ?_ _)); exact BK143.out)) (g := gb144) (o := .cells #[.int .i64 a4_0, .int .i64 a4_1] 28 (0, 0)) (by (with_reducible repeat (first | refine blk_drewN ?_ _ | refine blk_drew ?_ | refine blk_alloc ?_ _)); exact BK144.out)) (below_size (by repeat (first | (with_reducible first | exact HB.out | apply below_alloc | apply pw_below_drewN | apply below_drew1 | refine below_set ?_ GE143.out | refine below_set ?_ GE144.out) | exact HB.out)))); have n1_ := Aside0.mk (blk_below (g := gb143) (o := .cells #[.int .i64 a3_0, .int .i64 a3_1] 28 (0, 0)) (by (with_reducible repeat (first | refine blk_drewN ?_ _ | refine blk_drew ?_ | refine blk_alloc ?_ _)); exact BK143.out) hb); have n2_ := Aside0.mk (blk_below (g := gb144) (o := .cells #[.int .i64 a4_0, .int .i64 a4_1] 28 (0, 0)) (by (with_reducible repeat (first | refine blk_drewN ?_ _ | refine blk_drew ?_ | refine blk_alloc ?_ _)); exact BK144.out) hb); have n3_ := Aside0.mk (below_step (by repeat (first | (with_reducible first | exact HB.out | apply below_alloc | apply pw_below_drewN | apply below_drew1 | refine below_set ?_ GE143.out | refine below_set ?_ GE144.out) | exact HB.out)) hb); clear BK143; clear BK144; clear HB; have HO148 := n0_; have BK143 := n1_; have BK144 := n2_; have HB := n3_; clear n0_ n1_ n2_ n3_; clear hb hoxa9f81; obtain ⟨Aoxa9f81, coxa9f81, eoxa9f81⟩ := Kd.R_slice HO148.out; subst eoxa9f81))
         go_loopg [48] kj7 (fun kq v48 w' => ∃ (x48_2 : Int), v48 = .int .i64 x48_2 ∧ Aside0 (wind_Leg.l0 kq l0 a1 a2 y146 (y146.length : Int) x48_2 a3_0 a3_1 a4_0 a4_1 = some (r1, r2, r3)) ∧ Aside0 (kq ≤ kj7) ∧ Aside0 (Kd.R k28 28 w' w.heap.size (fun k_ => k_ ≠ gb143 ∧ k_ ≠ gb144) (.slice Aoxa9f81 y146.length coxa9f81) y146) ∧ Aside0 (w'.heap[gb143]? = some (.cells #[.int .i64 a3_0, .int .i64 a3_1] 28 (0, 0))) ∧ Aside0 (w'.heap[gb144]? = some (.cells #[.int .i64 a4_0, .int .i64 a4_1] 28 (0, 0))) ∧ Aside0 (Below w.heap.size w w'))
         case atStart => exact ⟨(0), (by first | rfl | (simp; done) | (simp [*]; done)), H', ⟨Nat.le_refl _⟩, ⟨by (with_reducible repeat (first | apply Kd.R_alloc | apply Kd.R_drewN | apply Kd.R_drew)); exact Kd.R_mono HO148.out (fun _ hk => ⟨hk.1.2, hk.2⟩)⟩, ⟨by (with_reducible repeat (first | refine blk_drewN ?_ _ | refine blk_drew ?_ | refine blk_alloc ?_ _)); exact BK143.out⟩, ⟨by (with_reducible repeat (first | refine blk_drewN ?_ _ | refine blk_drew ?_ | refine blk_alloc ?_ _)); exact BK144.out⟩, ⟨by repeat (first | (with_reducible first | exact HB.out | apply below_alloc | apply pw_below_drewN | apply below_drew1 | refine below_set ?_ GE143.out | refine below_set ?_ GE144.out) | exact HB.out)⟩⟩
         case round =>
          clear H'
          (try clear c1); (try clear c2); (try clear p2); (try clear c3); (try clear c7); (try clear c7b0); (try clear c7b1); (try clear c12); (try clear c12b0); (try clear c13); (try clear c13b0); (try clear c14); (try clear c14b0); (try clear c15); (try clear c16); (try clear c21); (try clear hczzc1); (try clear hczzc2); (try clear hczzc3); (try clear hczzc4); (try clear hfzzc1); (try clear hfzzc2); (try clear hfzzc3); (try clear hfzzc4); (try clear p2)
          obtain ⟨x48_2, rfl, HA, HK2, HO_46, BK143, BK144, HB⟩ := hrel
          cases gk with
          | zero => exact absurd HA.out (by simp [wind_Leg.l0])
          | succ k2 =>
           have H := HA.out
           clear HA
           simp only [wind_Leg.l0] at H
           refine Or.elim (Classical.em (x48_2 < (y146.length : Int))) (fun c22 => ?p8_) (fun c22 => ?n8_)
           case' p8_ =>
            rw [if_pos c22] at H
            have c22b0 : decide (x48_2 < (y146.length : Int)) = true := decide_eq_true c22
            clear c22
            refine Or.elim (Classical.em (0 ≤ x48_2)) (fun c23 => ?p9_) (fun c23 => ?n9_)
            case' p9_ =>
             rw [if_pos c23] at H
             have c23b0 : decide (0 ≤ x48_2) = true := decide_eq_true c23
             clear c23
             refine Or.elim (Classical.em (x48_2 < (y146.length : Int))) (fun c24 => ?p10_) (fun c24 => ?n10_)
             case' p10_ =>
              rw [if_pos c24] at H
              have c24b0 : decide (x48_2 < (y146.length : Int)) = true := decide_eq_true c24
              clear c24
              replace H := Option.bind_eq_some_iff.mp H
              obtain ⟨t151, A250, H⟩ := H
              replace H : (if t151 = 0 then (wind_Leg.l0 k2 l0 a1 a2 y146 (y146.length : Int) (wrap64 (x48_2 + 1)) a3_0 a3_1 a4_0 a4_1) else (some (0, 0, t151))) = some (r1, r2, r3) := H
              have A25 := Aside0.mk A250
              clear A250
              refine Or.elim (Classical.em (t151 = 0)) (fun c26 => ?p11_) (fun c26 => ?n11_)
              case' p11_ =>
               rw [if_pos c26] at H
               have c26b0 : (t151 == 0) = true := beq_iff_eq.mpr c26
               have c26b1 : (t151 != 0) = false := bne_eq_false_iff_eq.mpr c26
               clear c26
               have hm7_0 := Aside0.mk trivial
              case' n11_ =>
               rw [if_neg c26] at H
               have c26b0 : (t151 == 0) = false := beq_eq_false_iff_ne.mpr c26
               have c26b1 : (t151 != 0) = true := bne_iff_ne.mpr c26
               simp only [Option.some.injEq, Prod.mk.injEq] at H
               obtain ⟨rfl, rfl, rfl⟩ := H
               have p149 : 0 ≤ (x48_2 : Int) := of_decide_eq_true (by first | (with_reducible assumption) | assumption)
               have q149 : x48_2 < (y146.length : Int) := of_decide_eq_true (by first | (with_reducible assumption) | assumption)
               obtain ⟨ad149, e149, hx149_0, hx149_1⟩ := at_T28 (Kd.R_reads' HO_46.out).2.2 x48_2 p149 q149
               cases e149
               replace p149 := eq_true p149
               replace q149 := eq_true q149
               have hm7_1 := Aside0.mk trivial
             case' n10_ =>
              rw [if_neg c24] at H
              exact absurd H (by simp)
            case' n9_ =>
             rw [if_neg c23] at H
             exact absurd H (by simp)
           case' n8_ =>
            rw [if_neg c22] at H
            have c22b0 : decide (x48_2 < (y146.length : Int)) = false := decide_eq_false c22
            clear c22
            refine Or.elim (Classical.em ((a3_0 == a4_0 && (a3_1 == a4_1)) = true)) (fun c37 => ?p12_) (fun c37 => ?n12_)
            case' p12_ =>
             rw [if_pos c37] at H
             have c37b0 : (a3_0 == a4_0 && (a3_1 == a4_1)) = true := c37
             (try (have c37b1 : decide (a3_0 = a4_0 && (a3_1 == a4_1)) = true := by simpa using c37))
             (try (have c37b2 : (a3_0 == a4_0 && (a3_1 == a4_1)) = true := by simpa using c37))
             (try (have c37b3 : (!(a3_0 == a4_0) || (!(a3_1 == a4_1))) = false := by have h_ := c37; revert h_; cases (a3_0 == a4_0) <;> cases (a3_1 == a4_1) <;> decide))
             clear c37
             simp only [Option.some.injEq, Prod.mk.injEq] at H
             obtain ⟨rfl, rfl, rfl⟩ := H
             have hnbzc2 := NB143_144.out
             have hnczc2 := NB144_143.out
             have hczzc5 : wr.cell? ⟨gb143, 0, none⟩ = some (.int .i64 a3_0) := (blk_cell BK143.out 0).trans rfl
             have hczzc6 : wr.cell? ⟨gb143, 1, none⟩ = some (.int .i64 a3_1) := (blk_cell BK143.out 1).trans rfl
             have hfzzc5 := blk_frozen BK143.out 0
             have hfzzc6 := blk_frozen BK143.out 1
             have hczzc7 : wr.cell? ⟨gb144, 0, none⟩ = some (.int .i64 a4_0) := (blk_cell BK144.out 0).trans rfl
             have hczzc8 : wr.cell? ⟨gb144, 1, none⟩ = some (.int .i64 a4_1) := (blk_cell BK144.out 1).trans rfl
             have hfzzc7 := blk_frozen BK144.out 0
             have hfzzc8 := blk_frozen BK144.out 1
             have hm7_2 := Aside0.mk trivial
            case' n12_ =>
             rw [if_neg c37] at H
             have c37b0 : (a3_0 == a4_0 && (a3_1 == a4_1)) = false := by simpa using c37
             (try (have c37b1 : decide (a3_0 = a4_0 && (a3_1 == a4_1)) = false := by simpa using c37))
             (try (have c37b2 : (a3_0 == a4_0 && (a3_1 == a4_1)) = false := by simpa using c37))
             (try (have c37b3 : ¬ (a3_0 = a4_0 && (a3_1 == a4_1)) := by simpa using c37))
             (try (have c37b4 : (!(a3_0 == a4_0) || (!(a3_1 == a4_1))) = true := by have h_ := c37; revert h_; cases (a3_0 == a4_0) <;> cases (a3_1 == a4_1) <;> decide))
             clear c37
             replace H := Option.bind_eq_some_iff.mp H
             obtain ⟨⟨t152, t153⟩, A410, H⟩ := H
             replace H : ((angle_Of.f t152 t153).bind fun bt154 => ((wind_at.f k2 l0 a2).bind fun bt156 => ((wind_ground.f k2 a1 bt154.1 bt156.1 bt156.2.1 bt156.2.2.1 bt156.2.2.2.1 bt156.2.2.2.2).bind fun bt161 => ((plane_Distance.f a3_0 a3_1 a4_0 a4_1).bind fun bt163 => ((num_DivUp.f k2 bt163.2 bt161.1).bind fun bt165 => (if bt161.2 = 0 then (none) else (some (wrap64 (Int.tdiv bt163.1 bt161.2), bt165.1, 0)))))))) = some (r1, r2, r3) := H
             have A41 := Aside0.mk A410
             clear A410
             replace H := Option.bind_eq_some_iff.mp H
             obtain ⟨⟨t154, t155⟩, A420, H⟩ := H
             replace H : ((wind_at.f k2 l0 a2).bind fun bt156 => ((wind_ground.f k2 a1 t154 bt156.1 bt156.2.1 bt156.2.2.1 bt156.2.2.2.1 bt156.2.2.2.2).bind fun bt161 => ((plane_Distance.f a3_0 a3_1 a4_0 a4_1).bind fun bt163 => ((num_DivUp.f k2 bt163.2 bt161.1).bind fun bt165 => (if bt161.2 = 0 then (none) else (some (wrap64 (Int.tdiv bt163.1 bt161.2), bt165.1, 0))))))) = some (r1, r2, r3) := H
             have A42 := Aside0.mk A420
             clear A420
             replace H := Option.bind_eq_some_iff.mp H
             obtain ⟨⟨t156, t157, t158, t159, t160⟩, A430, H⟩ := H
             replace H : ((wind_ground.f k2 a1 t154 t156 t157 t158 t159 t160).bind fun bt161 => ((plane_Distance.f a3_0 a3_1 a4_0 a4_1).bind fun bt163 => ((num_DivUp.f k2 bt163.2 bt161.1).bind fun bt165 => (if bt161.2 = 0 then (none) else (some (wrap64 (Int.tdiv bt163.1 bt161.2), bt165.1, 0)))))) = some (r1, r2, r3) := H
             have A43 := Aside0.mk A430
             clear A430
             replace H := Option.bind_eq_some_iff.mp H
             obtain ⟨⟨t161, t162⟩, A440, H⟩ := H
             replace H : ((plane_Distance.f a3_0 a3_1 a4_0 a4_1).bind fun bt163 => ((num_DivUp.f k2 bt163.2 t161).bind fun bt165 => (if t162 = 0 then (none) else (some (wrap64 (Int.tdiv bt163.1 t162), bt165.1, 0))))) = some (r1, r2, r3) := H
             have A44 := Aside0.mk A440
             clear A440
             replace H := Option.bind_eq_some_iff.mp H
             obtain ⟨⟨t163, t164⟩, A450, H⟩ := H
             replace H : ((num_DivUp.f k2 t164 t161).bind fun bt165 => (if t162 = 0 then (none) else (some (wrap64 (Int.tdiv t163 t162), bt165.1, 0)))) = some (r1, r2, r3) := H
             have A45 := Aside0.mk A450
             clear A450
             replace H := Option.bind_eq_some_iff.mp H
             obtain ⟨⟨t165, t166⟩, A460, H⟩ := H
             replace H : (if t162 = 0 then (none) else (some (wrap64 (Int.tdiv t163 t162), t165, 0))) = some (r1, r2, r3) := H
             have A46 := Aside0.mk A460
             clear A460
             refine Or.elim (Classical.em (t162 = 0)) (fun c47 => ?p13_) (fun c47 => ?n13_)
             case' p13_ =>
              rw [if_pos c47] at H
              exact absurd H (by simp)
             case' n13_ =>
              rw [if_neg c47] at H
              have c47b0 : (t162 == 0) = false := beq_eq_false_iff_ne.mpr c47
              have c47b1 : (t162 != 0) = true := bne_iff_ne.mpr c47
              simp only [Option.some.injEq, Prod.mk.injEq] at H
              obtain ⟨rfl, rfl, rfl⟩ := H
              have hnbzc3 := NB143_144.out
              have hnczc3 := NB144_143.out
              have hczzc9 : wr.cell? ⟨gb143, 0, none⟩ = some (.int .i64 a3_0) := (blk_cell BK143.out 0).trans rfl
              have hczzc10 : wr.cell? ⟨gb143, 1, none⟩ = some (.int .i64 a3_1) := (blk_cell BK143.out 1).trans rfl
              have hfzzc9 := blk_frozen BK143.out 0
              have hfzzc10 := blk_frozen BK143.out 1
              have hczzc11 : wr.cell? ⟨gb144, 0, none⟩ = some (.int .i64 a4_0) := (blk_cell BK144.out 0).trans rfl
              have hczzc12 : wr.cell? ⟨gb144, 1, none⟩ = some (.int .i64 a4_1) := (blk_cell BK144.out 1).trans rfl
              have hfzzc11 := blk_frozen BK144.out 0
              have hfzzc12 := blk_frozen BK144.out 1
              have hm7_3 := Aside0.mk trivial
           all_goals
            first
             | clear hm7_0
               have H' := Aside0.mk H
               clear H
               have p149 : 0 ≤ (x48_2 : Int) := of_decide_eq_true (by first | (with_reducible assumption) | assumption)
               have q149 : x48_2 < (y146.length : Int) := of_decide_eq_true (by first | (with_reducible assumption) | assumption)
               obtain ⟨ad149, e149, hx149_0, hx149_1⟩ := at_T28 (Kd.R_reads' HO_46.out).2.2 x48_2 p149 q149
               cases e149
               replace p149 := eq_true p149
               replace q149 := eq_true q149
               go_wp2_with (first | ((with_reducible refine gate_dst (N := 15) rfl ?_); refine box_event ?hg (N := 15) ?hd (cs := #[.int .i64 0, .int .i64 0]) (t := 28) ?hr ?_; (case hd => rfl); (case hg => rfl); (case hr => first | (go_simp; done) | (go_simp; rfl)); intro gb150 hg wxde611 hbox hb; have n0_ := Aside0.mk (Kd.R_below (Kd.R_elderB (by (with_reducible repeat (first | apply Kd.R_alloc | apply Kd.R_drewN | apply Kd.R_drew)); exact HO_46.out) gb150 (Nat.le_of_eq hg.symm)) hb); have n1_ := Aside0.mk (blk_below (g := gb143) (o := .cells #[.int .i64 a3_0, .int .i64 a3_1] 28 (0, 0)) (by (with_reducible repeat (first | refine blk_drewN ?_ _ | refine blk_drew ?_ | refine blk_alloc ?_ _)); exact BK143.out) hb); have n2_ := Aside0.mk (blk_below (g := gb144) (o := .cells #[.int .i64 a4_0, .int .i64 a4_1] 28 (0, 0)) (by (with_reducible repeat (first | refine blk_drewN ?_ _ | refine blk_drew ?_ | refine blk_alloc ?_ _)); exact BK144.out) hb); have n3_ := Aside0.mk (below_step (by repeat (first | (with_reducible first | exact HB.out | apply below_alloc | apply pw_below_drewN | apply below_drew1 | refine below_set ?_ GE143.out | refine below_set ?_ GE144.out) | exact HB.out)) hb); have n4_ := Aside0.mk (hbox); have n5_ := Aside0.mk ((by rw [hg]; exact (below_size (by repeat (first | (with_reducible first | exact HB.out | apply below_alloc | apply pw_below_drewN | apply below_drew1 | refine below_set ?_ GE143.out | refine below_set ?_ GE144.out) | exact HB.out))) : w.heap.size ≤ gb150)); have n6_ := Aside0.mk ((by rw [hg]; exact (below_size (by repeat (first | (with_reducible first | exact HB.out | apply below_alloc | apply pw_below_drewN | apply below_drew1 | refine below_set ?_ GE143.out | refine below_set ?_ GE144.out) | exact HB.out))) : w.heap.size ≤ gb150)); have n7_ := Aside0.mk ((by rw [hg]; exact Nat.ne_of_lt (blk_lt (g := gb143) (o := .cells #[.int .i64 a3_0, .int .i64 a3_1] 28 (0, 0)) (by (with_reducible repeat (first | refine blk_drewN ?_ _ | refine blk_drew ?_ | refine blk_alloc ?_ _)); exact BK143.out)) : gb143 ≠ gb150)); have n8_ := Aside0.mk ((by rw [hg]; exact Nat.ne_of_gt (blk_lt (g := gb143) (o := .cells #[.int .i64 a3_0, .int .i64 a3_1] 28 (0, 0)) (by (with_reducible repeat (first | refine blk_drewN ?_ _ | refine blk_drew ?_ | refine blk_alloc ?_ _)); exact BK143.out)) : gb150 ≠ gb143)); have n9_ := Aside0.mk ((by rw [hg]; exact Nat.ne_of_lt (blk_lt (g := gb144) (o := .cells #[.int .i64 a4_0, .int .i64 a4_1] 28 (0, 0)) (by (with_reducible repeat (first | refine blk_drewN ?_ _ | refine blk_drew ?_ | refine blk_alloc ?_ _)); exact BK144.out)) : gb144 ≠ gb150)); have n10_ := Aside0.mk ((by rw [hg]; exact Nat.ne_of_gt (blk_lt (g := gb144) (o := .cells #[.int .i64 a4_0, .int .i64 a4_1] 28 (0, 0)) (by (with_reducible repeat (first | refine blk_drewN ?_ _ | refine blk_drew ?_ | refine blk_alloc ?_ _)); exact BK144.out)) : gb150 ≠ gb144)); clear HO_46; clear BK143; clear BK144; clear HB; have HO_46 := n0_; have BK143 := n1_; have BK144 := n2_; have HB := n3_; have BK150 := n4_; have GW150 := n5_; have GE150 := n6_; have NB143_150 := n7_; have NB150_143 := n8_; have NB144_150 := n9_; have NB150_144 := n10_; clear n0_ n1_ n2_ n3_ n4_ n5_ n6_ n7_ n8_ n9_ n10_; clear hb hbox hg; have hnbxde611 := NB150_143.out; have hncxde611 := NB143_150.out; have hnbxde612 := NB150_144.out; have hncxde612 := NB144_150.out; have hczxde611 : wxde611.cell? ⟨gb150, 0, none⟩ = some (.int .i64 0) := (blk_cell BK150.out 0).trans rfl; have hczxde612 : wxde611.cell? ⟨gb150, 1, none⟩ = some (.int .i64 0) := (blk_cell BK150.out 1).trans rfl; have hfzxde611 := blk_frozen BK150.out 0; have hfzxde612 := blk_frozen BK150.out 1) | ((with_reducible refine gate_callee (f := 33) rfl ?_); refine goesL_ (some 53) rfl rfl Tryd.func33 (by kernel_rfl) rfl #[.agg #[.int .i64 ((rd_T28 y146 x48_2).f0), .int .i64 ((rd_T28 y146 x48_2).f1)]] rfl (by (try simp only [List.map_toArray, List.map_cons, List.map_nil]); first | done | rfl | (simp only [List.length_drop, List.length_take]; rfl)) ?_; (with_reducible refine (plane_Check.calls ((rd_T28 y146 x48_2).f0) ((rd_T28 y146 x48_2).f1) t151 _ A25.out).mono ?_); rintro e wx68211 ⟨rfl, hb⟩; refine ⟨_, rfl, ?_⟩; have n0_ := Aside0.mk (Kd.R_below (by (with_reducible repeat (first | apply Kd.R_alloc | apply Kd.R_drewN | apply Kd.R_drew)); exact (Kd.R_mono (Kd.R_far (p := ⟨gb150, 1, none⟩) (Kd.R_far (p := ⟨gb150, 0, none⟩) (Kd.R_mono HO_46.out (fun k_ hk => (⟨hk, hk.2⟩ : _ ∧ k_ ≠ gb150))) (fun _ hk => hk.2) (.int .i64 ((rd_T28 y146 x48_2).f0))) (fun _ hk => hk.2) (.int .i64 ((rd_T28 y146 x48_2).f1))) (fun _ h_ => h_.1))) hb); have n1_ := Aside0.mk (blk_below (g := gb143) (o := .cells #[.int .i64 a3_0, .int .i64 a3_1] 28 (0, 0)) (by (with_reducible repeat (first | refine blk_drewN ?_ _ | refine blk_drew ?_ | refine blk_alloc ?_ _)); refine blk_far ?_ NB143_150.out _; (with_reducible repeat (first | refine blk_drewN ?_ _ | refine blk_drew ?_ | refine blk_alloc ?_ _)); refine blk_far ?_ NB143_150.out _; (with_reducible repeat (first | refine blk_drewN ?_ _ | refine blk_drew ?_ | refine blk_alloc ?_ _)); exact BK143.out) hb); have n2_ := Aside0.mk (blk_below (g := gb144) (o := .cells #[.int .i64 a4_0, .int .i64 a4_1] 28 (0, 0)) (by (with_reducible repeat (first | refine blk_drewN ?_ _ | refine blk_drew ?_ | refine blk_alloc ?_ _)); refine blk_far ?_ NB144_150.out _; (with_reducible repeat (first | refine blk_drewN ?_ _ | refine blk_drew ?_ | refine blk_alloc ?_ _)); refine blk_far ?_ NB144_150.out _; (with_reducible repeat (first | refine blk_drewN ?_ _ | refine blk_drew ?_ | refine blk_alloc ?_ _)); exact BK144.out) hb); have n3_ := Aside0.mk (blk_below (g := gb150) (o := .cells #[.int .i64 ((rd_T28 y146 x48_2).f0), .int .i64 ((rd_T28 y146 x48_2).f1)] 28 (0, 0)) (by (with_reducible repeat (first | refine blk_drewN ?_ _ | refine blk_drew ?_ | refine blk_alloc ?_ _)); refine blk_put (cs := #[.int .i64 ((rd_T28 y146 x48_2).f0), .int .i64 0]) ?_ 1 _ rfl; (with_reducible repeat (first | refine blk_drewN ?_ _ | refine blk_drew ?_ | refine blk_alloc ?_ _)); refine blk_put (cs := #[.int .i64 0, .int .i64 0]) ?_ 0 _ rfl; (with_reducible repeat (first | refine blk_drewN ?_ _ | refine blk_drew ?_ | refine blk_alloc ?_ _)); exact BK150.out) hb); have n4_ := Aside0.mk (below_step (by repeat (first | (with_reducible first | exact HB.out | apply below_alloc | apply pw_below_drewN | apply below_drew1 | refine below_set ?_ GE143.out | refine below_set ?_ GE144.out | refine below_set ?_ GE150.out) | exact HB.out)) hb); clear HO_46; clear BK143; clear BK144; clear BK150; clear HB; have HO_46 := n0_; have BK143 := n1_; have BK144 := n2_; have BK150 := n3_; have HB := n4_; clear n0_ n1_ n2_ n3_ n4_; (try clear hb); (try clear hb2); (try clear hk); (try clear hi)))
               go_roundg k2
               case measure => have := HJ7.out; have := HK2.out; omega
               case rel => exact ⟨(wrap64 (x48_2 + 1)), (by first | rfl | (simp; done) | (simp [*]; done)), H', ⟨by have := HJ7.out; have := HK2.out; omega⟩, ⟨by (with_reducible repeat (first | apply Kd.R_alloc | apply Kd.R_drewN | apply Kd.R_drew)); exact Kd.R_mono HO_46.out (fun _ hk => ⟨hk.1.1, hk.1.2⟩)⟩, ⟨by (with_reducible repeat (first | refine blk_drewN ?_ _ | refine blk_drew ?_ | refine blk_alloc ?_ _)); exact BK143.out⟩, ⟨by (with_reducible repeat (first | refine blk_drewN ?_ _ | refine blk_drew ?_ | refine blk_alloc ?_ _)); exact BK144.out⟩, ⟨by repeat (first | (with_reducible first | exact HB.out | apply below_alloc | apply pw_below_drewN | apply below_drew1 | refine below_set ?_ GE143.out | refine below_set ?_ GE144.out | refine below_set ?_ GE150.out) | exact HB.out)⟩⟩
             | (first | (have _hm := hm7_1) | (have _hm := hm7_3))
               go_wp2_with (first | ((with_reducible refine gate_dst (N := 15) rfl ?_); refine box_event ?hg (N := 15) ?hd (cs := #[.int .i64 0, .int .i64 0]) (t := 28) ?hr ?_; (case hd => rfl); (case hg => rfl); (case hr => first | (go_simp; done) | (go_simp; rfl)); intro gb150 hg wxde611 hbox hb; have n0_ := Aside0.mk (Kd.R_below (Kd.R_elderB (by (with_reducible repeat (first | apply Kd.R_alloc | apply Kd.R_drewN | apply Kd.R_drew)); exact HO_46.out) gb150 (Nat.le_of_eq hg.symm)) hb); have n1_ := Aside0.mk (blk_below (g := gb143) (o := .cells #[.int .i64 a3_0, .int .i64 a3_1] 28 (0, 0)) (by (with_reducible repeat (first | refine blk_drewN ?_ _ | refine blk_drew ?_ | refine blk_alloc ?_ _)); exact BK143.out) hb); have n2_ := Aside0.mk (blk_below (g := gb144) (o := .cells #[.int .i64 a4_0, .int .i64 a4_1] 28 (0, 0)) (by (with_reducible repeat (first | refine blk_drewN ?_ _ | refine blk_drew ?_ | refine blk_alloc ?_ _)); exact BK144.out) hb); have n3_ := Aside0.mk (below_step (by repeat (first | (with_reducible first | exact HB.out | apply below_alloc | apply pw_below_drewN | apply below_drew1 | refine below_set ?_ GE143.out | refine below_set ?_ GE144.out) | exact HB.out)) hb); have n4_ := Aside0.mk (hbox); have n5_ := Aside0.mk ((by rw [hg]; exact (below_size (by repeat (first | (with_reducible first | exact HB.out | apply below_alloc | apply pw_below_drewN | apply below_drew1 | refine below_set ?_ GE143.out | refine below_set ?_ GE144.out) | exact HB.out))) : w.heap.size ≤ gb150)); have n6_ := Aside0.mk ((by rw [hg]; exact (below_size (by repeat (first | (with_reducible first | exact HB.out | apply below_alloc | apply pw_below_drewN | apply below_drew1 | refine below_set ?_ GE143.out | refine below_set ?_ GE144.out) | exact HB.out))) : w.heap.size ≤ gb150)); have n7_ := Aside0.mk ((by rw [hg]; exact Nat.ne_of_lt (blk_lt (g := gb143) (o := .cells #[.int .i64 a3_0, .int .i64 a3_1] 28 (0, 0)) (by (with_reducible repeat (first | refine blk_drewN ?_ _ | refine blk_drew ?_ | refine blk_alloc ?_ _)); exact BK143.out)) : gb143 ≠ gb150)); have n8_ := Aside0.mk ((by rw [hg]; exact Nat.ne_of_gt (blk_lt (g := gb143) (o := .cells #[.int .i64 a3_0, .int .i64 a3_1] 28 (0, 0)) (by (with_reducible repeat (first | refine blk_drewN ?_ _ | refine blk_drew ?_ | refine blk_alloc ?_ _)); exact BK143.out)) : gb150 ≠ gb143)); have n9_ := Aside0.mk ((by rw [hg]; exact Nat.ne_of_lt (blk_lt (g := gb144) (o := .cells #[.int .i64 a4_0, .int .i64 a4_1] 28 (0, 0)) (by (with_reducible repeat (first | refine blk_drewN ?_ _ | refine blk_drew ?_ | refine blk_alloc ?_ _)); exact BK144.out)) : gb144 ≠ gb150)); have n10_ := Aside0.mk ((by rw [hg]; exact Nat.ne_of_gt (blk_lt (g := gb144) (o := .cells #[.int .i64 a4_0, .int .i64 a4_1] 28 (0, 0)) (by (with_reducible repeat (first | refine blk_drewN ?_ _ | refine blk_drew ?_ | refine blk_alloc ?_ _)); exact BK144.out)) : gb150 ≠ gb144)); clear HO_46; clear BK143; clear BK144; clear HB; have HO_46 := n0_; have BK143 := n1_; have BK144 := n2_; have HB := n3_; have BK150 := n4_; have GW150 := n5_; have GE150 := n6_; have NB143_150 := n7_; have NB150_143 := n8_; have NB144_150 := n9_; have NB150_144 := n10_; clear n0_ n1_ n2_ n3_ n4_ n5_ n6_ n7_ n8_ n9_ n10_; clear hb hbox hg; have hnbxde611 := NB150_143.out; have hncxde611 := NB143_150.out; have hnbxde612 := NB150_144.out; have hncxde612 := NB144_150.out; have hczxde611 : wxde611.cell? ⟨gb150, 0, none⟩ = some (.int .i64 0) := (blk_cell BK150.out 0).trans rfl; have hczxde612 : wxde611.cell? ⟨gb150, 1, none⟩ = some (.int .i64 0) := (blk_cell BK150.out 1).trans rfl; have hfzxde611 := blk_frozen BK150.out 0; have hfzxde612 := blk_frozen BK150.out 1) | ((with_reducible refine gate_callee (f := 33) rfl ?_); refine goesL_ (some 53) rfl rfl Tryd.func33 (by kernel_rfl) rfl #[.agg #[.int .i64 ((rd_T28 y146 x48_2).f0), .int .i64 ((rd_T28 y146 x48_2).f1)]] rfl (by (try simp only [List.map_toArray, List.map_cons, List.map_nil]); first | done | rfl | (simp only [List.length_drop, List.length_take]; rfl)) ?_; (with_reducible refine (plane_Check.calls ((rd_T28 y146 x48_2).f0) ((rd_T28 y146 x48_2).f1) t151 _ A25.out).mono ?_); rintro e wx68211 ⟨rfl, hb⟩; refine ⟨_, rfl, ?_⟩; have n0_ := Aside0.mk (Kd.R_below (by (with_reducible repeat (first | apply Kd.R_alloc | apply Kd.R_drewN | apply Kd.R_drew)); exact (Kd.R_mono (Kd.R_far (p := ⟨gb150, 1, none⟩) (Kd.R_far (p := ⟨gb150, 0, none⟩) (Kd.R_mono HO_46.out (fun k_ hk => (⟨hk, hk.2⟩ : _ ∧ k_ ≠ gb150))) (fun _ hk => hk.2) (.int .i64 ((rd_T28 y146 x48_2).f0))) (fun _ hk => hk.2) (.int .i64 ((rd_T28 y146 x48_2).f1))) (fun _ h_ => h_.1))) hb); have n1_ := Aside0.mk (blk_below (g := gb143) (o := .cells #[.int .i64 a3_0, .int .i64 a3_1] 28 (0, 0)) (by (with_reducible repeat (first | refine blk_drewN ?_ _ | refine blk_drew ?_ | refine blk_alloc ?_ _)); refine blk_far ?_ NB143_150.out _; (with_reducible repeat (first | refine blk_drewN ?_ _ | refine blk_drew ?_ | refine blk_alloc ?_ _)); refine blk_far ?_ NB143_150.out _; (with_reducible repeat (first | refine blk_drewN ?_ _ | refine blk_drew ?_ | refine blk_alloc ?_ _)); exact BK143.out) hb); have n2_ := Aside0.mk (blk_below (g := gb144) (o := .cells #[.int .i64 a4_0, .int .i64 a4_1] 28 (0, 0)) (by (with_reducible repeat (first | refine blk_drewN ?_ _ | refine blk_drew ?_ | refine blk_alloc ?_ _)); refine blk_far ?_ NB144_150.out _; (with_reducible repeat (first | refine blk_drewN ?_ _ | refine blk_drew ?_ | refine blk_alloc ?_ _)); refine blk_far ?_ NB144_150.out _; (with_reducible repeat (first | refine blk_drewN ?_ _ | refine blk_drew ?_ | refine blk_alloc ?_ _)); exact BK144.out) hb); have n3_ := Aside0.mk (blk_below (g := gb150) (o := .cells #[.int .i64 ((rd_T28 y146 x48_2).f0), .int .i64 ((rd_T28 y146 x48_2).f1)] 28 (0, 0)) (by (with_reducible repeat (first | refine blk_drewN ?_ _ | refine blk_drew ?_ | refine blk_alloc ?_ _)); refine blk_put (cs := #[.int .i64 ((rd_T28 y146 x48_2).f0), .int .i64 0]) ?_ 1 _ rfl; (with_reducible repeat (first | refine blk_drewN ?_ _ | refine blk_drew ?_ | refine blk_alloc ?_ _)); refine blk_put (cs := #[.int .i64 0, .int .i64 0]) ?_ 0 _ rfl; (with_reducible repeat (first | refine blk_drewN ?_ _ | refine blk_drew ?_ | refine blk_alloc ?_ _)); exact BK150.out) hb); have n4_ := Aside0.mk (below_step (by repeat (first | (with_reducible first | exact HB.out | apply below_alloc | apply pw_below_drewN | apply below_drew1 | refine below_set ?_ GE143.out | refine below_set ?_ GE144.out | refine below_set ?_ GE150.out) | exact HB.out)) hb); clear HO_46; clear BK143; clear BK144; clear BK150; clear HB; have HO_46 := n0_; have BK143 := n1_; have BK144 := n2_; have BK150 := n3_; have HB := n4_; clear n0_ n1_ n2_ n3_ n4_; (try clear hb); (try clear hb2); (try clear hk); (try clear hi)) | ((with_reducible refine gate_callee (f := 34) rfl ?_); refine goesL_ (some 64) rfl rfl Tryd.func34 (by kernel_rfl) rfl #[.agg #[.int .i64 a4_0, .int .i64 a4_1], .agg #[.int .i64 a3_0, .int .i64 a3_1]] rfl (by (try simp only [List.map_toArray, List.map_cons, List.map_nil]); first | done | rfl | (simp only [List.length_drop, List.length_take]; rfl)) ?_; (with_reducible refine (plane_Sub.calls a4_0 a4_1 a3_0 a3_1 t152 t153 _ A41.out).mono ?_); rintro e wx63c31 ⟨rfl, hb⟩; refine ⟨_, rfl, ?_⟩; have n0_ := Aside0.mk (Kd.R_below (by (with_reducible repeat (first | apply Kd.R_alloc | apply Kd.R_drewN | apply Kd.R_drew)); exact HO_46.out) hb); have n1_ := Aside0.mk (blk_below (g := gb143) (o := .cells #[.int .i64 a3_0, .int .i64 a3_1] 28 (0, 0)) (by (with_reducible repeat (first | refine blk_drewN ?_ _ | refine blk_drew ?_ | refine blk_alloc ?_ _)); exact BK143.out) hb); have n2_ := Aside0.mk (blk_below (g := gb144) (o := .cells #[.int .i64 a4_0, .int .i64 a4_1] 28 (0, 0)) (by (with_reducible repeat (first | refine blk_drewN ?_ _ | refine blk_drew ?_ | refine blk_alloc ?_ _)); exact BK144.out) hb); have n3_ := Aside0.mk (below_step (by repeat (first | (with_reducible first | exact HB.out | apply below_alloc | apply pw_below_drewN | apply below_drew1 | refine below_set ?_ GE143.out | refine below_set ?_ GE144.out) | exact HB.out)) hb); clear HO_46; clear BK143; clear BK144; clear HB; have HO_46 := n0_; have BK143 := n1_; have BK144 := n2_; have HB := n3_; clear n0_ n1_ n2_ n3_; (try clear hb); (try clear hb2); (try clear hk); (try clear hi)) | ((with_reducible refine gate_callee (f := 16) rfl ?_); refine goesL_ (some 65) rfl rfl Tryd.func16 (by kernel_rfl) rfl #[.agg #[.int .i64 t152, .int .i64 t153]] rfl (by (try simp only [List.map_toArray, List.map_cons, List.map_nil]); first | done | rfl | (simp only [List.length_drop, List.length_take]; rfl)) ?_; (with_reducible refine (angle_Of.calls t152 t153 t154 t155 _ A42.out).mono ?_); rintro e wx0e5c1 ⟨rfl, hb⟩; refine ⟨_, rfl, ?_⟩; have n0_ := Aside0.mk (Kd.R_below (by (with_reducible repeat (first | apply Kd.R_alloc | apply Kd.R_drewN | apply Kd.R_drew)); exact HO_46.out) hb); have n1_ := Aside0.mk (blk_below (g := gb143) (o := .cells #[.int .i64 a3_0, .int .i64 a3_1] 28 (0, 0)) (by (with_reducible repeat (first | refine blk_drewN ?_ _ | refine blk_drew ?_ | refine blk_alloc ?_ _)); exact BK143.out) hb); have n2_ := Aside0.mk (blk_below (g := gb144) (o := .cells #[.int .i64 a4_0, .int .i64 a4_1] 28 (0, 0)) (by (with_reducible repeat (first | refine blk_drewN ?_ _ | refine blk_drew ?_ | refine blk_alloc ?_ _)); exact BK144.out) hb); have n3_ := Aside0.mk (below_step (by repeat (first | (with_reducible first | exact HB.out | apply below_alloc | apply pw_below_drewN | apply below_drew1 | refine below_set ?_ GE143.out | refine below_set ?_ GE144.out) | exact HB.out)) hb); clear HO_46; clear BK143; clear BK144; clear HB; have HO_46 := n0_; have BK143 := n1_; have BK144 := n2_; have HB := n3_; clear n0_ n1_ n2_ n3_; (try clear hb); (try clear hb2); (try clear hk); (try clear hi)) | ((with_reducible refine gate_callee (f := 35) rfl ?_); refine goesL_ (some 73) rfl rfl Tryd.func35 (by kernel_rfl) rfl #[.slice A0 l0.length c0, .int .i64 a2] rfl (by (try simp only [List.map_toArray, List.map_cons, List.map_nil]); first | done | rfl | (simp only [List.length_drop, List.length_take]; rfl)) ?_; (with_reducible refine (wind_at.calls k2 _ _ l0 a2 t156 t157 t158 t159 t160 _ ?side1 ?side2 A43.out).mono ?_); (case side1 => repeat (first | exact (Kd.C_below HR0.out HB.out) | (with_reducible refine Kd.C_alloc ?_ _) | (with_reducible refine Kd.C_drewN ?_ _) | (with_reducible refine Kd.C_drew ?_))); (case side2 => exact HC0.out); rintro e wx896a1 ⟨rfl, hb⟩; refine ⟨_, rfl, ?_⟩; have n0_ := Aside0.mk (Kd.R_below (by (with_reducible repeat (first | apply Kd.R_alloc | apply Kd.R_drewN | apply Kd.R_drew)); exact HO_46.out) hb); have n1_ := Aside0.mk (blk_below (g := gb143) (o := .cells #[.int .i64 a3_0, .int .i64 a3_1] 28 (0, 0)) (by (with_reducible repeat (first | refine blk_drewN ?_ _ | refine blk_drew ?_ | refine blk_alloc ?_ _)); exact BK143.out) hb); have n2_ := Aside0.mk (blk_below (g := gb144) (o := .cells #[.int .i64 a4_0, .int .i64 a4_1] 28 (0, 0)) (by (with_reducible repeat (first | refine blk_drewN ?_ _ | refine blk_drew ?_ | refine blk_alloc ?_ _)); exact BK144.out) hb); have n3_ := Aside0.mk (below_step (by repeat (first | (with_reducible first | exact HB.out | apply below_alloc | apply pw_below_drewN | apply below_drew1 | refine below_set ?_ GE143.out | refine below_set ?_ GE144.out) | exact HB.out)) hb); clear HO_46; clear BK143; clear BK144; clear HB; have HO_46 := n0_; have BK143 := n1_; have BK144 := n2_; have HB := n3_; clear n0_ n1_ n2_ n3_; (try clear hb); (try clear hb2); (try clear hk); (try clear hi)) | ((with_reducible refine gate_callee (f := 32) rfl ?_); refine goesL_ (some 74) rfl rfl Tryd.func32 (by kernel_rfl) rfl #[.int .i64 a1, .int .i64 t154, .agg #[.int .i64 t156, .int .i64 t157, .int .i64 t158, .int .i64 t159, .int .i64 t160]] rfl (by (try simp only [List.map_toArray, List.map_cons, List.map_nil]); first | done | rfl | (simp only [List.length_drop, List.length_take]; rfl)) ?_; (with_reducible refine (wind_ground.calls k2 a1 t154 t156 t157 t158 t159 t160 t161 t162 _ A44.out).mono ?_); rintro e wx11c91 ⟨rfl, hb⟩; refine ⟨_, rfl, ?_⟩; have n0_ := Aside0.mk (Kd.R_below (by (with_reducible repeat (first | apply Kd.R_alloc | apply Kd.R_drewN | apply Kd.R_drew)); exact HO_46.out) hb); have n1_ := Aside0.mk (blk_below (g := gb143) (o := .cells #[.int .i64 a3_0, .int .i64 a3_1] 28 (0, 0)) (by (with_reducible repeat (first | refine blk_drewN ?_ _ | refine blk_drew ?_ | refine blk_alloc ?_ _)); exact BK143.out) hb); have n2_ := Aside0.mk (blk_below (g := gb144) (o := .cells #[.int .i64 a4_0, .int .i64 a4_1] 28 (0, 0)) (by (with_reducible repeat (first | refine blk_drewN ?_ _ | refine blk_drew ?_ | refine blk_alloc ?_ _)); exact BK144.out) hb); have n3_ := Aside0.mk (below_step (by repeat (first | (with_reducible first | exact HB.out | apply below_alloc | apply pw_below_drewN | apply below_drew1 | refine below_set ?_ GE143.out | refine below_set ?_ GE144.out) | exact HB.out)) hb); clear HO_46; clear BK143; clear BK144; clear HB; have HO_46 := n0_; have BK143 := n1_; have BK144 := n2_; have HB := n3_; clear n0_ n1_ n2_ n3_; (try clear hb); (try clear hb2); (try clear hk); (try clear hi); have hczx11c91 : wx11c91.cell? ⟨gb143, 0, none⟩ = some (.int .i64 a3_0) := (blk_cell BK143.out 0).trans rfl; have hczx11c92 : wx11c91.cell? ⟨gb143, 1, none⟩ = some (.int .i64 a3_1) := (blk_cell BK143.out 1).trans rfl; have hfzx11c91 := blk_frozen BK143.out 0; have hfzx11c92 := blk_frozen BK143.out 1; have hczx11c93 : wx11c91.cell? ⟨gb144, 0, none⟩ = some (.int .i64 a4_0) := (blk_cell BK144.out 0).trans rfl; have hczx11c94 : wx11c91.cell? ⟨gb144, 1, none⟩ = some (.int .i64 a4_1) := (blk_cell BK144.out 1).trans rfl; have hfzx11c93 := blk_frozen BK144.out 0; have hfzx11c94 := blk_frozen BK144.out 1) | ((with_reducible refine gate_callee (f := 18) rfl ?_); refine goesL_ (some 80) rfl rfl Tryd.func18 (by kernel_rfl) rfl #[.agg #[.int .i64 a3_0, .int .i64 a3_1], .agg #[.int .i64 a4_0, .int .i64 a4_1]] rfl (by (try simp only [List.map_toArray, List.map_cons, List.map_nil]); first | done | rfl | (simp only [List.length_drop, List.length_take]; rfl)) ?_; (with_reducible refine (plane_Distance.calls a3_0 a3_1 a4_0 a4_1 t163 t164 _ A45.out).mono ?_); rintro e wx62e71 ⟨rfl, hb⟩; refine ⟨_, rfl, ?_⟩; have n0_ := Aside0.mk (Kd.R_below (by (with_reducible repeat (first | apply Kd.R_alloc | apply Kd.R_drewN | apply Kd.R_drew)); exact HO_46.out) hb); have n1_ := Aside0.mk (blk_below (g := gb143) (o := .cells #[.int .i64 a3_0, .int .i64 a3_1] 28 (0, 0)) (by (with_reducible repeat (first | refine blk_drewN ?_ _ | refine blk_drew ?_ | refine blk_alloc ?_ _)); exact BK143.out) hb); have n2_ := Aside0.mk (blk_below (g := gb144) (o := .cells #[.int .i64 a4_0, .int .i64 a4_1] 28 (0, 0)) (by (with_reducible repeat (first | refine blk_drewN ?_ _ | refine blk_drew ?_ | refine blk_alloc ?_ _)); exact BK144.out) hb); have n3_ := Aside0.mk (below_step (by repeat (first | (with_reducible first | exact HB.out | apply below_alloc | apply pw_below_drewN | apply below_drew1 | refine below_set ?_ GE143.out | refine below_set ?_ GE144.out) | exact HB.out)) hb); clear HO_46; clear BK143; clear BK144; clear HB; have HO_46 := n0_; have BK143 := n1_; have BK144 := n2_; have HB := n3_; clear n0_ n1_ n2_ n3_; (try clear hb); (try clear hb2); (try clear hk); (try clear hi)) | ((with_reducible refine gate_callee (f := 36) rfl ?_); refine goesL_ (some 86) rfl rfl Tryd.func36 (by kernel_rfl) rfl #[.int .i64 t164, .int .i64 t161] rfl (by (try simp only [List.map_toArray, List.map_cons, List.map_nil]); first | done | rfl | (simp only [List.length_drop, List.length_take]; rfl)) ?_; (with_reducible refine (num_DivUp.calls k2 t164 t161 t165 t166 _ A46.out).mono ?_); rintro e wx20b81 ⟨rfl, hb⟩; refine ⟨_, rfl, ?_⟩; have n0_ := Aside0.mk (Kd.R_below (by (with_reducible repeat (first | apply Kd.R_alloc | apply Kd.R_drewN | apply Kd.R_drew)); exact HO_46.out) hb); have n1_ := Aside0.mk (blk_below (g := gb143) (o := .cells #[.int .i64 a3_0, .int .i64 a3_1] 28 (0, 0)) (by (with_reducible repeat (first | refine blk_drewN ?_ _ | refine blk_drew ?_ | refine blk_alloc ?_ _)); exact BK143.out) hb); have n2_ := Aside0.mk (blk_below (g := gb144) (o := .cells #[.int .i64 a4_0, .int .i64 a4_1] 28 (0, 0)) (by (with_reducible repeat (first | refine blk_drewN ?_ _ | refine blk_drew ?_ | refine blk_alloc ?_ _)); exact BK144.out) hb); have n3_ := Aside0.mk (below_step (by repeat (first | (with_reducible first | exact HB.out | apply below_alloc | apply pw_below_drewN | apply below_drew1 | refine below_set ?_ GE143.out | refine below_set ?_ GE144.out) | exact HB.out)) hb); clear HO_46; clear BK143; clear BK144; clear HB; have HO_46 := n0_; have BK143 := n1_; have BK144 := n2_; have HB := n3_; clear n0_ n1_ n2_ n3_; (try clear hb); (try clear hb2); (try clear hk); (try clear hi)))
               go_ret3
               first
                | clear hm7_1
                  exact ⟨by first | rfl | (simp [errW_none, errW_some] <;> rfl) | (simp [*, errW_none, errW_some] <;> rfl), by repeat (first | (with_reducible first | exact HB.out | apply below_alloc | apply pw_below_drewN | apply below_drew1 | refine below_set ?_ GE143.out | refine below_set ?_ GE144.out | refine below_set ?_ GE150.out) | exact HB.out)⟩
                | clear hm7_3
                  exact ⟨by first | rfl | (simp [errW_none, errW_some] <;> rfl) | (simp [*, errW_none, errW_some] <;> rfl), by repeat (first | (with_reducible first | exact HB.out | apply below_alloc | apply pw_below_drewN | apply below_drew1 | refine below_set ?_ GE143.out | refine below_set ?_ GE144.out) | exact HB.out)⟩
             | clear hm7_2
               go_wp2
               go_ret3
               exact ⟨by first | rfl | (simp [errW_none, errW_some] <;> rfl) | (simp [*, errW_none, errW_some] <;> rfl), by repeat (first | (with_reducible first | exact HB.out | apply below_alloc | apply pw_below_drewN | apply below_drew1 | refine below_set ?_ GE143.out | refine below_set ?_ GE144.out) | exact HB.out)⟩
   | clear hm1_1
     go_wp2_with (first | ((with_reducible refine gate_dst (N := 8) rfl ?_); refine box_event ?hg (N := 8) ?hd (cs := #[.int .i64 a3_0, .int .i64 a3_1]) (t := 28) ?hr ?_; (case hd => rfl); (case hg => rfl); (case hr => first | (go_simp; done) | (go_simp; rfl)); intro gb143 hg wxdcbd1 hbox hb; have n0_ := Aside0.mk (below_step (by repeat (first | (with_reducible first | exact HB.out | apply below_alloc | apply pw_below_drewN | apply below_drew1) | exact HB.out)) hb); have n1_ := Aside0.mk (hbox); have n2_ := Aside0.mk ((by rw [hg]; exact (below_size (by repeat (first | (with_reducible first | exact HB.out | apply below_alloc | apply pw_below_drewN | apply below_drew1) | exact HB.out))) : w.heap.size ≤ gb143)); have n3_ := Aside0.mk ((by rw [hg]; exact (below_size (by repeat (first | (with_reducible first | exact HB.out | apply below_alloc | apply pw_below_drewN | apply below_drew1) | exact HB.out))) : w.heap.size ≤ gb143)); clear HB; have HB := n0_; have BK143 := n1_; have GW143 := n2_; have GE143 := n3_; clear n0_ n1_ n2_ n3_; clear hb hbox hg) | ((with_reducible refine gate_dst (N := 9) rfl ?_); refine box_event ?hg (N := 9) ?hd (cs := #[.int .i64 a4_0, .int .i64 a4_1]) (t := 28) ?hr ?_; (case hd => rfl); (case hg => rfl); (case hr => first | (go_simp; done) | (go_simp; rfl)); intro gb144 hg wx8d3b1 hbox hb; have n0_ := Aside0.mk (blk_below (g := gb143) (o := .cells #[.int .i64 a3_0, .int .i64 a3_1] 28 (0, 0)) (by (with_reducible repeat (first | refine blk_drewN ?_ _ | refine blk_drew ?_ | refine blk_alloc ?_ _)); exact BK143.out) hb); have n1_ := Aside0.mk (below_step (by repeat (first | (with_reducible first | exact HB.out | apply below_alloc | apply pw_below_drewN | apply below_drew1 | refine below_set ?_ GE143.out) | exact HB.out)) hb); have n2_ := Aside0.mk (hbox); have n3_ := Aside0.mk ((by rw [hg]; exact (below_size (by repeat (first | (with_reducible first | exact HB.out | apply below_alloc | apply pw_below_drewN | apply below_drew1 | refine below_set ?_ GE143.out) | exact HB.out))) : w.heap.size ≤ gb144)); have n4_ := Aside0.mk ((by rw [hg]; exact (below_size (by repeat (first | (with_reducible first | exact HB.out | apply below_alloc | apply pw_below_drewN | apply below_drew1 | refine below_set ?_ GE143.out) | exact HB.out))) : w.heap.size ≤ gb144)); have n5_ := Aside0.mk ((by rw [hg]; exact Nat.ne_of_lt (blk_lt (g := gb143) (o := .cells #[.int .i64 a3_0, .int .i64 a3_1] 28 (0, 0)) (by (with_reducible repeat (first | refine blk_drewN ?_ _ | refine blk_drew ?_ | refine blk_alloc ?_ _)); exact BK143.out)) : gb143 ≠ gb144)); have n6_ := Aside0.mk ((by rw [hg]; exact Nat.ne_of_gt (blk_lt (g := gb143) (o := .cells #[.int .i64 a3_0, .int .i64 a3_1] 28 (0, 0)) (by (with_reducible repeat (first | refine blk_drewN ?_ _ | refine blk_drew ?_ | refine blk_alloc ?_ _)); exact BK143.out)) : gb144 ≠ gb143)); clear BK143; clear HB; have BK143 := n0_; have HB := n1_; have BK144 := n2_; have GW144 := n3_; have GE144 := n4_; have NB143_144 := n5_; have NB144_143 := n6_; clear n0_ n1_ n2_ n3_ n4_ n5_ n6_; clear hb hbox hg) | ((with_reducible refine gate_callee (f := 31) rfl ?_); refine goesL_ (some 26) rfl rfl Tryd.func31 (by kernel_rfl) rfl #[.slice A0 l0.length c0] rfl (by (try simp only [List.map_toArray, List.map_cons, List.map_nil]); first | done | rfl | (simp only [List.length_drop, List.length_take]; rfl)) ?_; (with_reducible refine (wind_Check.calls k _ _ l0 t145 _ ?side1 ?side2 A6.out).mono ?_); (case side1 => repeat (first | exact (Kd.C_below HR0.out HB.out) | (with_reducible refine Kd.C_alloc ?_ _) | (with_reducible refine Kd.C_drewN ?_ _) | (with_reducible refine Kd.C_drew ?_))); (case side2 => exact HC0.out); rintro e wx662a1 ⟨rfl, hb⟩; refine ⟨_, rfl, ?_⟩; have n0_ := Aside0.mk (blk_below (g := gb143) (o := .cells #[.int .i64 a3_0, .int .i64 a3_1] 28 (0, 0)) (by (with_reducible repeat (first | refine blk_drewN ?_ _ | refine blk_drew ?_ | refine blk_alloc ?_ _)); exact BK143.out) hb); have n1_ := Aside0.mk (blk_below (g := gb144) (o := .cells #[.int .i64 a4_0, .int .i64 a4_1] 28 (0, 0)) (by (with_reducible repeat (first | refine blk_drewN ?_ _ | refine blk_drew ?_ | refine blk_alloc ?_ _)); exact BK144.out) hb); have n2_ := Aside0.mk (below_step (by repeat (first | (with_reducible first | exact HB.out | apply below_alloc | apply pw_below_drewN | apply below_drew1 | refine below_set ?_ GE143.out | refine below_set ?_ GE144.out) | exact HB.out)) hb); clear BK143; clear BK144; clear HB; have BK143 := n0_; have BK144 := n1_; have HB := n2_; clear n0_ n1_ n2_; (try clear hb); (try clear hb2); (try clear hk); (try clear hi)))
     go_ret3
     exact ⟨by first | rfl | (simp [errW_none, errW_some] <;> rfl) | (simp [*, errW_none, errW_some] <;> rfl), by repeat (first | (with_reducible first | exact HB.out | apply below_alloc | apply pw_below_drewN | apply below_drew1 | refine below_set ?_ GE143.out | refine below_set ?_ GE144.out) | exact HB.out)⟩

/-! ### skywaykeep1_windWorks: function 19 -/
def skywaykeep1_windWorks.f (k : Nat)  : Option (Bool) := (wind_Ground.f k 100 1024 0 9 20 0 0).bind fun bt167 => ((wind_Leg.f k ([] : List (S38)) 100 500 0 0 250 0).bind fun bt170 => (if bt167.2.2 = 0 then (if bt167.1 = 120 then (if bt167.2.1 = 120 then (if bt170.2.2 = 0 then (if bt170.1 = 2 then (some (bt170.2.1 == 3)) else (some false)) else (some false)) else (some false)) else (some false)) else (some false)))
theorem skywaykeep1_windWorks.mono : ∀ k, LeO (skywaykeep1_windWorks.f k ) (skywaykeep1_windWorks.f (k + 1) ) := by
  intro  k
  unfold skywaykeep1_windWorks.f
  repeat' first
      | (with_reducible exact wind_Ground.mono _ _ _ _ _ _ _ _)
      | (with_reducible exact wind_Leg.mono _ _ _ _ _ _ _ _)
      | (with_reducible exact LeO.refl _)
      | (with_reducible exact LeO.none _)
      | (with_reducible refine LeO.ite ?_ ?_)
      | (with_reducible refine LeO.bind ?_ (fun _ => ?_))
      | exact wind_Ground.mono _ _ _ _ _ _ _ _
      | exact wind_Leg.mono _ _ _ _ _ _ _ _
      | exact LeO.none _
      | refine LeO.ite ?_ ?_
      | refine LeO.bind ?_ (fun _ => ?_)
set_option maxHeartbeats 8000000 in
set_option maxRecDepth 100000 in
theorem skywaykeep1_windWorks.calls (k : Nat)  (r : Bool) (w : World) (h : skywaykeep1_windWorks.f k  = some r) (hT0 : Ang.Tab w := by exact Ang.Tab.below hT0 (by repeat (first | (with_reducible first | exact HB.out | apply below_alloc | apply pw_below_drewN | apply below_drew1) | exact HB.out | (refine Below.setCell ?_ (by dsimp only; exact Aside0.out (by assumption)) _)))) :
    Calls Tryd.prog 19 #[] w fun e w' => e = .returned (.bool r) ∧ Below w.heap.size w w' := by
 have hu28 := Tryd.underlying28
 have hu38 := Tryd.underlying38
 have HB := Aside0.mk (Below.refl w.heap.size w)
 have H : ((wind_Ground.f k 100 1024 0 9 20 0 0).bind fun bt167 => ((wind_Leg.f k ([] : List (S38)) 100 500 0 0 250 0).bind fun bt170 => (if bt167.2.2 = 0 then (if bt167.1 = 120 then (if bt167.2.1 = 120 then (if bt170.2.2 = 0 then (if bt170.1 = 2 then (some (bt170.2.1 == 3)) else (some false)) else (some false)) else (some false)) else (some false)) else (some false)))) = some r := h
 clear h
 replace H := Option.bind_eq_some_iff.mp H
 obtain ⟨⟨t167, t168, t169⟩, A10, H⟩ := H
 replace H : ((wind_Leg.f k ([] : List (S38)) 100 500 0 0 250 0).bind fun bt170 => (if t169 = 0 then (if t167 = 120 then (if t168 = 120 then (if bt170.2.2 = 0 then (if bt170.1 = 2 then (some (bt170.2.1 == 3)) else (some false)) else (some false)) else (some false)) else (some false)) else (some false))) = some r := H
 have A1 := Aside0.mk A10
 clear A10
 replace H := Option.bind_eq_some_iff.mp H
 obtain ⟨⟨t170, t171, t172⟩, A20, H⟩ := H
 replace H : (if t169 = 0 then (if t167 = 120 then (if t168 = 120 then (if t172 = 0 then (if t170 = 2 then (some (t171 == 3)) else (some false)) else (some false)) else (some false)) else (some false)) else (some false)) = some r := H
 have A2 := Aside0.mk A20
 clear A20
 refine Or.elim (Classical.em (t169 = 0)) (fun c3 => ?p2_) (fun c3 => ?n2_)
 case' p2_ =>
  rw [if_pos c3] at H
  have c3b0 : (t169 == 0) = true := beq_iff_eq.mpr c3
  have c3b1 : (t169 != 0) = false := bne_eq_false_iff_eq.mpr c3
  clear c3
  refine Or.elim (Classical.em (t167 = 120)) (fun c4 => ?p3_) (fun c4 => ?n3_)
  case' p3_ =>
   rw [if_pos c4] at H
   have c4b0 : (t167 == 120) = true := beq_iff_eq.mpr c4
   have c4b1 : (t167 != 120) = false := bne_eq_false_iff_eq.mpr c4
   clear c4
   refine Or.elim (Classical.em (t168 = 120)) (fun c5 => ?p4_) (fun c5 => ?n4_)
   case' p4_ =>
    rw [if_pos c5] at H
    have c5b0 : (t168 == 120) = true := beq_iff_eq.mpr c5
    have c5b1 : (t168 != 120) = false := bne_eq_false_iff_eq.mpr c5
    clear c5
    refine Or.elim (Classical.em (t172 = 0)) (fun c6 => ?p5_) (fun c6 => ?n5_)
    case' p5_ =>
     rw [if_pos c6] at H
     have c6b0 : (t172 == 0) = true := beq_iff_eq.mpr c6
     have c6b1 : (t172 != 0) = false := bne_eq_false_iff_eq.mpr c6
     clear c6
     refine Or.elim (Classical.em (t170 = 2)) (fun c7 => ?p6_) (fun c7 => ?n6_)
     case' p6_ =>
      rw [if_pos c7] at H
      have c7b0 : (t170 == 2) = true := beq_iff_eq.mpr c7
      have c7b1 : (t170 != 2) = false := bne_eq_false_iff_eq.mpr c7
      clear c7
     case' n6_ =>
      rw [if_neg c7] at H
      have c7b0 : (t170 == 2) = false := beq_eq_false_iff_ne.mpr c7
      have c7b1 : (t170 != 2) = true := bne_iff_ne.mpr c7
    case' n5_ =>
     rw [if_neg c6] at H
     have c6b0 : (t172 == 0) = false := beq_eq_false_iff_ne.mpr c6
     have c6b1 : (t172 != 0) = true := bne_iff_ne.mpr c6
   case' n4_ =>
    rw [if_neg c5] at H
    have c5b0 : (t168 == 120) = false := beq_eq_false_iff_ne.mpr c5
    have c5b1 : (t168 != 120) = true := bne_iff_ne.mpr c5
  case' n3_ =>
   rw [if_neg c4] at H
   have c4b0 : (t167 == 120) = false := beq_eq_false_iff_ne.mpr c4
   have c4b1 : (t167 != 120) = true := bne_iff_ne.mpr c4
 case' n2_ =>
  rw [if_neg c3] at H
  have c3b0 : (t169 == 0) = false := beq_eq_false_iff_ne.mpr c3
  have c3b1 : (t169 != 0) = true := bne_iff_ne.mpr c3
 all_goals
  obtain rfl := Option.some.inj H
  go_enter Tryd.func19, Tryd.ntmps19
  go_wp2_with (first | ((with_reducible refine gate_callee (f := 20) rfl ?_); refine goesL_ (some 10) rfl rfl Tryd.func20 (by kernel_rfl) rfl #[.int .i64 100, .int .i64 1024, .agg #[.int .i64 0, .int .i64 9, .int .i64 20, .int .i64 0, .int .i64 0]] rfl (by (try simp only [List.map_toArray, List.map_cons, List.map_nil]); first | done | rfl | (simp only [List.length_drop, List.length_take]; rfl)) ?_; (with_reducible refine (wind_Ground.calls k 100 1024 0 9 20 0 0 t167 t168 t169 _ A1.out).mono ?_); rintro e wx992b1 ⟨rfl, hb⟩; refine ⟨_, rfl, ?_⟩; have n0_ := Aside0.mk (below_step (by repeat (first | (with_reducible first | exact HB.out | apply below_alloc | apply pw_below_drewN | apply below_drew1) | exact HB.out)) hb); clear HB; have HB := n0_; clear n0_; (try clear hb); (try clear hb2); (try clear hk); (try clear hi)) | ((with_reducible refine gate_callee (f := 21) rfl ?_); refine goesL_ (some 17) rfl rfl Tryd.func21 (by kernel_rfl) rfl #[.slice none 0 0, .int .i64 100, .int .i64 500, .agg #[.int .i64 0, .int .i64 0], .agg #[.int .i64 250, .int .i64 0]] rfl (by (try simp only [List.map_toArray, List.map_cons, List.map_nil]); first | done | rfl | (simp only [List.length_drop, List.length_take]; rfl)) ?_; (refine (wind_Leg.calls k _ _ ([] : List (S38)) 100 500 0 0 250 0 t170 t171 t172 _ ?side1 ?side2 A2.out).mono ?_); (case side1 => exact Kd.C_nil _ _); (case side2 => exact Nat.le_refl _); rintro e wx66291 ⟨rfl, hb⟩; refine ⟨_, rfl, ?_⟩; have n0_ := Aside0.mk (below_step (by repeat (first | (with_reducible first | exact HB.out | apply below_alloc | apply pw_below_drewN | apply below_drew1) | exact HB.out)) hb); clear HB; have HB := n0_; clear n0_; (try clear hb); (try clear hb2); (try clear hk); (try clear hi)))
  go_ret
  exact ⟨by first | rfl | (simp [errW_none, errW_some] <;> rfl) | (simp [*, errW_none, errW_some] <;> rfl), by repeat (first | (with_reducible first | exact HB.out | apply below_alloc | apply pw_below_drewN | apply below_drew1) | exact HB.out)⟩

/-! ### wind_At: function 22 -/
def wind_At.f (k : Nat) (l0 : List (S38)) (a1 : Int) : Option (Int × Int × Int × Int × Int × Int) := (wind_Check.f k l0).bind fun t174 => (if t174 = 0 then (if a1 < 0 then (some (0, 0, 0, 0, 0, 4)) else (if a1 > 60000 then (some (0, 0, 0, 0, 0, 4)) else ((wind_at.f k l0 a1).bind fun bt175 => (some (bt175.1, bt175.2.1, bt175.2.2.1, bt175.2.2.2.1, bt175.2.2.2.2, 0))))) else (some (0, 0, 0, 0, 0, t174)))
theorem wind_At.mono : ∀ a0 a1 k, LeO (wind_At.f k a0 a1) (wind_At.f (k + 1) a0 a1) := by
  intro a0 a1 k
  unfold wind_At.f
  repeat' first
      | (with_reducible exact wind_Check.mono _ _)
      | (with_reducible exact wind_at.mono _ _ _)
      | (with_reducible exact LeO.refl _)
      | (with_reducible exact LeO.none _)
      | (with_reducible refine LeO.ite ?_ ?_)
      | (with_reducible refine LeO.bind ?_ (fun _ => ?_))
      | exact wind_Check.mono _ _
      | exact wind_at.mono _ _ _
      | exact LeO.none _
      | refine LeO.ite ?_ ?_
      | refine LeO.bind ?_ (fun _ => ?_)
set_option maxHeartbeats 8000000 in
set_option maxRecDepth 100000 in
theorem wind_At.calls (k : Nat) (A0 : Option Addr) (c0 : Nat) (l0 : List (S38)) (a1 : Int) (r1 : Int) (r2 : Int) (r3 : Int) (r4 : Int) (r5 : Int) (r6 : Int) (w : World) (hr0 : Kd.C k38 w A0 l0.length l0) (hc0 : l0.length ≤ c0) (h : wind_At.f k l0 a1 = some (r1, r2, r3, r4, r5, r6)) :
    Calls Tryd.prog 22 #[.slice A0 l0.length c0, .int .i64 a1] w fun e w' => e = .returned (.tuple #[.agg #[.int .i64 r1, .int .i64 r2, .int .i64 r3, .int .i64 r4, .int .i64 r5], .int .i64 r6]) ∧ Below w.heap.size w w' := by
 have hu38 := Tryd.underlying38
 have HR0 := Aside0.mk hr0
 have HC0 := Aside0.mk hc0
 clear hr0 hc0
 have HB := Aside0.mk (Below.refl w.heap.size w)
 have H : ((wind_Check.f k l0).bind fun t174 => (if t174 = 0 then (if a1 < 0 then (some (0, 0, 0, 0, 0, 4)) else (if a1 > 60000 then (some (0, 0, 0, 0, 0, 4)) else ((wind_at.f k l0 a1).bind fun bt175 => (some (bt175.1, bt175.2.1, bt175.2.2.1, bt175.2.2.2.1, bt175.2.2.2.2, 0))))) else (some (0, 0, 0, 0, 0, t174)))) = some (r1, r2, r3, r4, r5, r6) := h
 clear h
 replace H := Option.bind_eq_some_iff.mp H
 obtain ⟨t174, A30, H⟩ := H
 replace H : (if t174 = 0 then (if a1 < 0 then (some (0, 0, 0, 0, 0, 4)) else (if a1 > 60000 then (some (0, 0, 0, 0, 0, 4)) else ((wind_at.f k l0 a1).bind fun bt175 => (some (bt175.1, bt175.2.1, bt175.2.2.1, bt175.2.2.2.1, bt175.2.2.2.2, 0))))) else (some (0, 0, 0, 0, 0, t174))) = some (r1, r2, r3, r4, r5, r6) := H
 have A3 := Aside0.mk A30
 clear A30
 refine Or.elim (Classical.em (t174 = 0)) (fun c4 => ?p2_) (fun c4 => ?n2_)
 case' p2_ =>
  rw [if_pos c4] at H
  have c4b0 : (t174 == 0) = true := beq_iff_eq.mpr c4
  have c4b1 : (t174 != 0) = false := bne_eq_false_iff_eq.mpr c4
  clear c4
  refine Or.elim (Classical.em (a1 < 0)) (fun c5 => ?p3_) (fun c5 => ?n3_)
  case' p3_ =>
   rw [if_pos c5] at H
   have c5b0 : decide (a1 < 0) = true := decide_eq_true c5
   clear c5
   simp only [Option.some.injEq, Prod.mk.injEq] at H
   obtain ⟨rfl, rfl, rfl, rfl, rfl, rfl⟩ := H
   have hm1_0 := Aside0.mk trivial
  case' n3_ =>
   rw [if_neg c5] at H
   have c5b0 : decide (a1 < 0) = false := decide_eq_false c5
   clear c5
   refine Or.elim (Classical.em (a1 > 60000)) (fun c9 => ?p4_) (fun c9 => ?n4_)
   case' p4_ =>
    rw [if_pos c9] at H
    have c9b0 : decide (60000 < a1) = true := decide_eq_true c9
    clear c9
    simp only [Option.some.injEq, Prod.mk.injEq] at H
    obtain ⟨rfl, rfl, rfl, rfl, rfl, rfl⟩ := H
    have hm1_0 := Aside0.mk trivial
   case' n4_ =>
    rw [if_neg c9] at H
    have c9b0 : decide (60000 < a1) = false := decide_eq_false c9
    clear c9
    replace H := Option.bind_eq_some_iff.mp H
    obtain ⟨⟨t175, t176, t177, t178, t179⟩, A130, H⟩ := H
    replace H : (some (t175, t176, t177, t178, t179, 0)) = some (r1, r2, r3, r4, r5, r6) := H
    have A13 := Aside0.mk A130
    clear A130
    simp only [Option.some.injEq, Prod.mk.injEq] at H
    obtain ⟨rfl, rfl, rfl, rfl, rfl, rfl⟩ := H
    have hm1_1 := Aside0.mk trivial
 case' n2_ =>
  rw [if_neg c4] at H
  have c4b0 : (t174 == 0) = false := beq_eq_false_iff_ne.mpr c4
  have c4b1 : (t174 != 0) = true := bne_iff_ne.mpr c4
  simp only [Option.some.injEq, Prod.mk.injEq] at H
  obtain ⟨rfl, rfl, rfl, rfl, rfl, rfl⟩ := H
  have hm1_0 := Aside0.mk trivial
 all_goals
  go_enter Tryd.func22, Tryd.ntmps22
  go_wp2_with (first | ((with_reducible refine gate_dst (N := 4) rfl ?_); refine box_event ?hg (N := 4) ?hd (cs := #[.int .i64 0, .int .i64 0, .int .i64 0, .int .i64 0, .int .i64 0]) (t := 38) ?hr ?_; (case hd => rfl); (case hg => rfl); (case hr => first | (go_simp; done) | (go_simp; rfl)); intro gb173 hg wx98f51 hbox hb; have n0_ := Aside0.mk (below_step (by repeat (first | (with_reducible first | exact HB.out | apply below_alloc | apply pw_below_drewN | apply below_drew1) | exact HB.out)) hb); have n1_ := Aside0.mk (hbox); have n2_ := Aside0.mk ((by rw [hg]; exact (below_size (by repeat (first | (with_reducible first | exact HB.out | apply below_alloc | apply pw_below_drewN | apply below_drew1) | exact HB.out))) : w.heap.size ≤ gb173)); have n3_ := Aside0.mk ((by rw [hg]; exact (below_size (by repeat (first | (with_reducible first | exact HB.out | apply below_alloc | apply pw_below_drewN | apply below_drew1) | exact HB.out))) : w.heap.size ≤ gb173)); clear HB; have HB := n0_; have BK173 := n1_; have GW173 := n2_; have GE173 := n3_; clear n0_ n1_ n2_ n3_; clear hb hbox hg) | ((with_reducible refine gate_callee (f := 31) rfl ?_); refine goesL_ (some 8) rfl rfl Tryd.func31 (by kernel_rfl) rfl #[.slice A0 l0.length c0] rfl (by (try simp only [List.map_toArray, List.map_cons, List.map_nil]); first | done | rfl | (simp only [List.length_drop, List.length_take]; rfl)) ?_; (with_reducible refine (wind_Check.calls k _ _ l0 t174 _ ?side1 ?side2 A3.out).mono ?_); (case side1 => repeat (first | exact (Kd.C_below HR0.out HB.out) | (with_reducible refine Kd.C_alloc ?_ _) | (with_reducible refine Kd.C_drewN ?_ _) | (with_reducible refine Kd.C_drew ?_))); (case side2 => exact HC0.out); rintro e wxe5141 ⟨rfl, hb⟩; refine ⟨_, rfl, ?_⟩; have n0_ := Aside0.mk (blk_below (g := gb173) (o := .cells #[.int .i64 0, .int .i64 0, .int .i64 0, .int .i64 0, .int .i64 0] 38 (0, 0)) (by (with_reducible repeat (first | refine blk_drewN ?_ _ | refine blk_drew ?_ | refine blk_alloc ?_ _)); exact BK173.out) hb); have n1_ := Aside0.mk (below_step (by repeat (first | (with_reducible first | exact HB.out | apply below_alloc | apply pw_below_drewN | apply below_drew1 | refine below_set ?_ GE173.out) | exact HB.out)) hb); clear BK173; clear HB; have BK173 := n0_; have HB := n1_; clear n0_ n1_; (try clear hb); (try clear hb2); (try clear hk); (try clear hi); have hczxe5141 : wxe5141.cell? ⟨gb173, 0, none⟩ = some (.int .i64 0) := (blk_cell BK173.out 0).trans rfl; have hczxe5142 : wxe5141.cell? ⟨gb173, 1, none⟩ = some (.int .i64 0) := (blk_cell BK173.out 1).trans rfl; have hczxe5143 : wxe5141.cell? ⟨gb173, 2, none⟩ = some (.int .i64 0) := (blk_cell BK173.out 2).trans rfl; have hczxe5144 : wxe5141.cell? ⟨gb173, 3, none⟩ = some (.int .i64 0) := (blk_cell BK173.out 3).trans rfl; have hczxe5145 : wxe5141.cell? ⟨gb173, 4, none⟩ = some (.int .i64 0) := (blk_cell BK173.out 4).trans rfl; have hfzxe5141 := blk_frozen BK173.out 0; have hfzxe5142 := blk_frozen BK173.out 1; have hfzxe5143 := blk_frozen BK173.out 2; have hfzxe5144 := blk_frozen BK173.out 3; have hfzxe5145 := blk_frozen BK173.out 4) | ((with_reducible refine gate_callee (f := 31) rfl ?_); refine goesL_ (some 8) rfl rfl Tryd.func31 (by kernel_rfl) rfl #[.slice A0 l0.length c0] rfl (by (try simp only [List.map_toArray, List.map_cons, List.map_nil]); first | done | rfl | (simp only [List.length_drop, List.length_take]; rfl)) ?_; (with_reducible refine (wind_Check.calls k _ _ l0 t174 _ ?side1 ?side2 A3.out).mono ?_); (case side1 => repeat (first | exact (Kd.C_below HR0.out HB.out) | (with_reducible refine Kd.C_alloc ?_ _) | (with_reducible refine Kd.C_drewN ?_ _) | (with_reducible refine Kd.C_drew ?_))); (case side2 => exact HC0.out); rintro e wx24c71 ⟨rfl, hb⟩; refine ⟨_, rfl, ?_⟩; have n0_ := Aside0.mk (blk_below (g := gb173) (o := .cells #[.int .i64 0, .int .i64 0, .int .i64 0, .int .i64 0, .int .i64 0] 38 (0, 0)) (by (with_reducible repeat (first | refine blk_drewN ?_ _ | refine blk_drew ?_ | refine blk_alloc ?_ _)); exact BK173.out) hb); have n1_ := Aside0.mk (below_step (by repeat (first | (with_reducible first | exact HB.out | apply below_alloc | apply pw_below_drewN | apply below_drew1 | refine below_set ?_ GE173.out) | exact HB.out)) hb); clear BK173; clear HB; have BK173 := n0_; have HB := n1_; clear n0_ n1_; (try clear hb); (try clear hb2); (try clear hk); (try clear hi)) | ((with_reducible refine gate_callee (f := 35) rfl ?_); refine goesL_ (some 22) rfl rfl Tryd.func35 (by kernel_rfl) rfl #[.slice A0 l0.length c0, .int .i64 a1] rfl (by (try simp only [List.map_toArray, List.map_cons, List.map_nil]); first | done | rfl | (simp only [List.length_drop, List.length_take]; rfl)) ?_; (with_reducible refine (wind_at.calls k _ _ l0 a1 t175 t176 t177 t178 t179 _ ?side1 ?side2 A13.out).mono ?_); (case side1 => repeat (first | exact (Kd.C_below HR0.out HB.out) | (with_reducible refine Kd.C_alloc ?_ _) | (with_reducible refine Kd.C_drewN ?_ _) | (with_reducible refine Kd.C_drew ?_))); (case side2 => exact HC0.out); rintro e wx1d571 ⟨rfl, hb⟩; refine ⟨_, rfl, ?_⟩; have n0_ := Aside0.mk (blk_below (g := gb173) (o := .cells #[.int .i64 0, .int .i64 0, .int .i64 0, .int .i64 0, .int .i64 0] 38 (0, 0)) (by (with_reducible repeat (first | refine blk_drewN ?_ _ | refine blk_drew ?_ | refine blk_alloc ?_ _)); exact BK173.out) hb); have n1_ := Aside0.mk (below_step (by repeat (first | (with_reducible first | exact HB.out | apply below_alloc | apply pw_below_drewN | apply below_drew1 | refine below_set ?_ GE173.out) | exact HB.out)) hb); clear BK173; clear HB; have BK173 := n0_; have HB := n1_; clear n0_ n1_; (try clear hb); (try clear hb2); (try clear hk); (try clear hi); have hczx1d571 : wx1d571.cell? ⟨gb173, 0, none⟩ = some (.int .i64 0) := (blk_cell BK173.out 0).trans rfl; have hczx1d572 : wx1d571.cell? ⟨gb173, 1, none⟩ = some (.int .i64 0) := (blk_cell BK173.out 1).trans rfl; have hczx1d573 : wx1d571.cell? ⟨gb173, 2, none⟩ = some (.int .i64 0) := (blk_cell BK173.out 2).trans rfl; have hczx1d574 : wx1d571.cell? ⟨gb173, 3, none⟩ = some (.int .i64 0) := (blk_cell BK173.out 3).trans rfl; have hczx1d575 : wx1d571.cell? ⟨gb173, 4, none⟩ = some (.int .i64 0) := (blk_cell BK173.out 4).trans rfl; have hfzx1d571 := blk_frozen BK173.out 0; have hfzx1d572 := blk_frozen BK173.out 1; have hfzx1d573 := blk_frozen BK173.out 2; have hfzx1d574 := blk_frozen BK173.out 3; have hfzx1d575 := blk_frozen BK173.out 4))
  first
   | clear hm1_0
     refine bodyPost_ret (results_ct rfl _ _ gb173 38 #[.int .i64 0, .int .i64 0, .int .i64 0, .int .i64 0, .int .i64 0] (0, 0) _ rfl (by (with_reducible repeat (first | refine blk_drewN ?_ _ | refine blk_drew ?_ | refine blk_alloc ?_ _)); refine blk_put (cs := #[.int .i64 0, .int .i64 0, .int .i64 0, .int .i64 0, .int .i64 0]) ?_ 4 _ rfl; (with_reducible repeat (first | refine blk_drewN ?_ _ | refine blk_drew ?_ | refine blk_alloc ?_ _)); refine blk_put (cs := #[.int .i64 0, .int .i64 0, .int .i64 0, .int .i64 0, .int .i64 0]) ?_ 3 _ rfl; (with_reducible repeat (first | refine blk_drewN ?_ _ | refine blk_drew ?_ | refine blk_alloc ?_ _)); refine blk_put (cs := #[.int .i64 0, .int .i64 0, .int .i64 0, .int .i64 0, .int .i64 0]) ?_ 2 _ rfl; (with_reducible repeat (first | refine blk_drewN ?_ _ | refine blk_drew ?_ | refine blk_alloc ?_ _)); refine blk_put (cs := #[.int .i64 0, .int .i64 0, .int .i64 0, .int .i64 0, .int .i64 0]) ?_ 1 _ rfl; (with_reducible repeat (first | refine blk_drewN ?_ _ | refine blk_drew ?_ | refine blk_alloc ?_ _)); refine blk_put (cs := #[.int .i64 0, .int .i64 0, .int .i64 0, .int .i64 0, .int .i64 0]) ?_ 0 _ rfl; (with_reducible repeat (first | refine blk_drewN ?_ _ | refine blk_drew ?_ | refine blk_alloc ?_ _)); exact BK173.out) Tryd.underlying38 rfl (by kernel_rfl)) rfl ?_
     exact ⟨by first | rfl | (simp [errW_none, errW_some] <;> rfl) | (simp [*, errW_none, errW_some] <;> rfl), by repeat (first | (with_reducible first | exact HB.out | apply below_alloc | apply pw_below_drewN | apply below_drew1 | refine below_set ?_ GE173.out) | exact HB.out)⟩
   | clear hm1_1
     refine bodyPost_ret (results_ct rfl _ _ gb173 38 #[.int .i64 t175, .int .i64 t176, .int .i64 t177, .int .i64 t178, .int .i64 t179] (0, 0) _ rfl (by (with_reducible repeat (first | refine blk_drewN ?_ _ | refine blk_drew ?_ | refine blk_alloc ?_ _)); refine blk_put (cs := #[.int .i64 t175, .int .i64 t176, .int .i64 t177, .int .i64 t178, .int .i64 0]) ?_ 4 _ rfl; (with_reducible repeat (first | refine blk_drewN ?_ _ | refine blk_drew ?_ | refine blk_alloc ?_ _)); refine blk_put (cs := #[.int .i64 t175, .int .i64 t176, .int .i64 t177, .int .i64 0, .int .i64 0]) ?_ 3 _ rfl; (with_reducible repeat (first | refine blk_drewN ?_ _ | refine blk_drew ?_ | refine blk_alloc ?_ _)); refine blk_put (cs := #[.int .i64 t175, .int .i64 t176, .int .i64 0, .int .i64 0, .int .i64 0]) ?_ 2 _ rfl; (with_reducible repeat (first | refine blk_drewN ?_ _ | refine blk_drew ?_ | refine blk_alloc ?_ _)); refine blk_put (cs := #[.int .i64 t175, .int .i64 0, .int .i64 0, .int .i64 0, .int .i64 0]) ?_ 1 _ rfl; (with_reducible repeat (first | refine blk_drewN ?_ _ | refine blk_drew ?_ | refine blk_alloc ?_ _)); refine blk_put (cs := #[.int .i64 0, .int .i64 0, .int .i64 0, .int .i64 0, .int .i64 0]) ?_ 0 _ rfl; (with_reducible repeat (first | refine blk_drewN ?_ _ | refine blk_drew ?_ | refine blk_alloc ?_ _)); exact BK173.out) Tryd.underlying38 rfl (by kernel_rfl)) rfl ?_
     exact ⟨by first | rfl | (simp [errW_none, errW_some] <;> rfl) | (simp [*, errW_none, errW_some] <;> rfl), by repeat (first | (with_reducible first | exact HB.out | apply below_alloc | apply pw_below_drewN | apply below_drew1 | refine below_set ?_ GE173.out) | exact HB.out)⟩

end Go.Proofs.YthpbpdobghceeaaDoor.PWindLegs
