/- Made by a program of this session (wip/tools/myprint.py, over the kit's printer): that the Go functions answer as the Lean functions printed beside them. -/
import Derived.Test.YtbpbpojnfhhbjaaPFlyClosedx0
namespace Go.Proofs.Ytbpbpojnfhhbjaa.PFlyClosed
open Go.RowKit Go.Proofs.YtbpbpojnfhhbjaaW.PrintWords Go.Proofs.YtbpbpojnfhhbjaaW.PrintLast Go.Proofs.YtbpbpojnfhhbjaaW.PrintMore
attribute [local go_sem] max2_int min2_int max_two min_two max_three min_three max_four min_four   -- for this text's walks alone
set_option linter.unusedVariables false
set_option linter.unusedSimpArgs false

/-! ### plane_Check: function 57 -/
def plane_Check.f (a0_0 : Int) (a0_1 : Int) : Option (Int) := if a0_0 < (-1000000) then (some 4) else (if a0_0 > 1000000 then (some 4) else (if a0_1 < (-1000000) then (some 4) else (if a0_1 > 1000000 then (some 4) else (some 0))))
set_option maxHeartbeats 8000000 in
set_option maxRecDepth 100000 in
theorem plane_Check.calls (a0_0 : Int) (a0_1 : Int) (r : Int) (w : World) (h : plane_Check.f a0_0 a0_1 = some r) :
    Calls Try.prog 57 #[.agg #[.int .i64 a0_0, .int .i64 a0_1]] w fun e w' => e = .returned (.int .i64 r) ∧ Below w.heap.size w w' := by
 have hu36 := Try.underlying36
 have HB := Aside0.mk (Below.refl w.heap.size w)
 have H : (if a0_0 < (-1000000) then (some 4) else (if a0_0 > 1000000 then (some 4) else (if a0_1 < (-1000000) then (some 4) else (if a0_1 > 1000000 then (some 4) else (some 0))))) = some r := h
 clear h
 refine Or.elim (Classical.em (a0_0 < (-1000000))) (fun c2 => ?p2_) (fun c2 => ?n2_)
 case' p2_ =>
  rw [if_pos c2] at H
  have c2b0 : decide (a0_0 < (-1000000)) = true := decide_eq_true c2
  clear c2
 case' n2_ =>
  rw [if_neg c2] at H
  have c2b0 : decide (a0_0 < (-1000000)) = false := decide_eq_false c2
  clear c2
  refine Or.elim (Classical.em (a0_0 > 1000000)) (fun c5 => ?p3_) (fun c5 => ?n3_)
  case' p3_ =>
   rw [if_pos c5] at H
   have c5b0 : decide (1000000 < a0_0) = true := decide_eq_true c5
   clear c5
  case' n3_ =>
   rw [if_neg c5] at H
   have c5b0 : decide (1000000 < a0_0) = false := decide_eq_false c5
   clear c5
   refine Or.elim (Classical.em (a0_1 < (-1000000))) (fun c8 => ?p4_) (fun c8 => ?n4_)
   case' p4_ =>
    rw [if_pos c8] at H
    have c8b0 : decide (a0_1 < (-1000000)) = true := decide_eq_true c8
    clear c8
   case' n4_ =>
    rw [if_neg c8] at H
    have c8b0 : decide (a0_1 < (-1000000)) = false := decide_eq_false c8
    clear c8
    refine Or.elim (Classical.em (a0_1 > 1000000)) (fun c11 => ?p5_) (fun c11 => ?n5_)
    case' p5_ =>
     rw [if_pos c11] at H
     have c11b0 : decide (1000000 < a0_1) = true := decide_eq_true c11
     clear c11
    case' n5_ =>
     rw [if_neg c11] at H
     have c11b0 : decide (1000000 < a0_1) = false := decide_eq_false c11
     clear c11
 all_goals
  obtain rfl := Option.some.inj H
  go_enter Try.func57, Try.ntmps57
  go_wp2_with (first | ((with_reducible refine gate_dst (N := 1) rfl ?_); refine box_event ?hg (N := 1) ?hd (cs := #[.int .i64 a0_0, .int .i64 a0_1]) (t := 36) ?hr ?_; (case hd => rfl); (case hg => rfl); (case hr => first | (go_simp; done) | (go_simp; rfl)); intro gb101 hg wxe0ab1 hbox hb; have n0_ := Aside0.mk (below_step (by repeat (first | (with_reducible first | exact HB.out | apply below_alloc | apply pw_below_drewN | apply below_drew1) | exact HB.out)) hb); have n1_ := Aside0.mk (hbox); have n2_ := Aside0.mk ((by rw [hg]; exact (below_size (by repeat (first | (with_reducible first | exact HB.out | apply below_alloc | apply pw_below_drewN | apply below_drew1) | exact HB.out))) : w.heap.size ≤ gb101)); have n3_ := Aside0.mk ((by rw [hg]; exact (below_size (by repeat (first | (with_reducible first | exact HB.out | apply below_alloc | apply pw_below_drewN | apply below_drew1) | exact HB.out))) : w.heap.size ≤ gb101)); clear HB; have HB := n0_; have BK101 := n1_; have GW101 := n2_; have GE101 := n3_; clear n0_ n1_ n2_ n3_; clear hb hbox hg; have hczxe0ab1 : wxe0ab1.cell? ⟨gb101, 0, none⟩ = some (.int .i64 a0_0) := (blk_cell BK101.out 0).trans rfl; have hczxe0ab2 : wxe0ab1.cell? ⟨gb101, 1, none⟩ = some (.int .i64 a0_1) := (blk_cell BK101.out 1).trans rfl; have hfzxe0ab1 := blk_frozen BK101.out 0; have hfzxe0ab2 := blk_frozen BK101.out 1))
  go_ret
  exact ⟨by first | rfl | (simp [errW_none, errW_some] <;> rfl) | (simp [*, errW_none, errW_some] <;> rfl), by repeat (first | (with_reducible first | exact HB.out | apply below_alloc | apply pw_below_drewN | apply below_drew1 | refine below_set ?_ GE101.out) | exact HB.out)⟩

/-! ### fly_Check: function 76 -/
mutual
def fly_Check.l0 : Nat → List (S71) → List (S71) → Int → Int → Option (Int)
  | 0, _, _, _, _ => none
  | k + 1, x0, x14, x15, x16 => if x16 < x15 then (if 0 ≤ x16 then (if x16 < (x14.length : Int) then (if ((rd_T71 x14 x16).f0) < 0 then (fly_Check.j1 k x0 x14 x15 x16 true ((rd_T71 x14 x16).f0) ((rd_T71 x14 x16).f1.f0) ((rd_T71 x14 x16).f1.f1) ((rd_T71 x14 x16).f2)) else (if ((rd_T71 x14 x16).f0) > 200000 then (fly_Check.j1 k x0 x14 x15 x16 true ((rd_T71 x14 x16).f0) ((rd_T71 x14 x16).f1.f0) ((rd_T71 x14 x16).f1.f1) ((rd_T71 x14 x16).f2)) else (if x16 > 0 then (if 0 ≤ (wrap64 (x16 - 1)) then (if (wrap64 (x16 - 1)) < (x0.length : Int) then (fly_Check.j1 k x0 x14 x15 x16 (decide (((rd_T71 x14 x16).f0) ≤ ((rd_T71 x0 (wrap64 (x16 - 1))).f0))) ((rd_T71 x14 x16).f0) ((rd_T71 x14 x16).f1.f0) ((rd_T71 x14 x16).f1.f1) ((rd_T71 x14 x16).f2)) else (none)) else (none)) else (fly_Check.j1 k x0 x14 x15 x16 false ((rd_T71 x14 x16).f0) ((rd_T71 x14 x16).f1.f0) ((rd_T71 x14 x16).f1.f1) ((rd_T71 x14 x16).f2))))) else (none)) else (none)) else (some 0)
def fly_Check.j1 : Nat → List (S71) → List (S71) → Int → Int → Bool → Int → Int → Int → Int → Option (Int)
  | 0, _, _, _, _, _, _, _, _, _ => none
  | k + 1, x0, x14, x15, x16, x43, x104000, x104001, x104002, x104003 => if x43 = true then (some 12) else ((plane_Check.f x104001 x104002).bind fun t105 => (if t105 = 0 then (if x104003 < 0 then (some 4) else (if x104003 > 60000 then (some 4) else (fly_Check.l0 k x0 x14 x15 (wrap64 (x16 + 1))))) else (some t105)))
end
def fly_Check.f (k : Nat) (l0 : List (S71)) : Option (Int) := if (l0.length : Int) > 64 then (some 2) else (if (l0.length : Int) = 0 then (some 3) else (fly_Check.l0 k l0 l0 (l0.length : Int) 0))
theorem fly_Check.mono_l : ∀ k, (∀ y0 y1 y2 y3, LeO (fly_Check.l0 k y0 y1 y2 y3) (fly_Check.l0 (k + 1) y0 y1 y2 y3)) ∧ (∀ y0 y1 y2 y3 y4 y5 y6 y7 y8, LeO (fly_Check.j1 k y0 y1 y2 y3 y4 y5 y6 y7 y8) (fly_Check.j1 (k + 1) y0 y1 y2 y3 y4 y5 y6 y7 y8))
  | 0 => ⟨fun _ _ _ _ r h => by simp [fly_Check.l0] at h, fun _ _ _ _ _ _ _ _ _ r h => by simp [fly_Check.j1] at h⟩
  | k + 1 => by
    obtain ⟨ih0, ih1⟩ := fly_Check.mono_l k
    refine ⟨?_, ?_⟩
    · intro y0 y1 y2 y3
      unfold fly_Check.l0
      repeat' first
      | (with_reducible exact ih0 _ _ _ _)
      | (with_reducible exact ih1 _ _ _ _ _ _ _ _ _)
      | (with_reducible exact LeO.refl _)
      | (with_reducible exact LeO.none _)
      | (with_reducible refine LeO.ite ?_ ?_)
      | (with_reducible refine LeO.bind ?_ (fun _ => ?_))
      | exact ih0 _ _ _ _
      | exact ih1 _ _ _ _ _ _ _ _ _
      | exact LeO.none _
      | refine LeO.ite ?_ ?_
      | refine LeO.bind ?_ (fun _ => ?_)
    · intro y0 y1 y2 y3 y4 y5 y6 y7 y8
      unfold fly_Check.j1
      repeat' first
      | (with_reducible exact ih0 _ _ _ _)
      | (with_reducible exact ih1 _ _ _ _ _ _ _ _ _)
      | (with_reducible exact LeO.refl _)
      | (with_reducible exact LeO.none _)
      | (with_reducible refine LeO.ite ?_ ?_)
      | (with_reducible refine LeO.bind ?_ (fun _ => ?_))
      | exact ih0 _ _ _ _
      | exact ih1 _ _ _ _ _ _ _ _ _
      | exact LeO.none _
      | refine LeO.ite ?_ ?_
      | refine LeO.bind ?_ (fun _ => ?_)
theorem fly_Check.mono : ∀ a0 k, LeO (fly_Check.f k a0) (fly_Check.f (k + 1) a0) := by
  intro a0 k
  obtain ⟨ih0, ih1⟩ := fly_Check.mono_l k
  unfold fly_Check.f
  repeat' first
      | (with_reducible exact ih0 _ _ _ _)
      | (with_reducible exact ih1 _ _ _ _ _ _ _ _ _)
      | (with_reducible exact LeO.refl _)
      | (with_reducible exact LeO.none _)
      | (with_reducible refine LeO.ite ?_ ?_)
      | (with_reducible refine LeO.bind ?_ (fun _ => ?_))
      | exact ih0 _ _ _ _
      | exact ih1 _ _ _ _ _ _ _ _ _
      | exact LeO.none _
      | refine LeO.ite ?_ ?_
      | refine LeO.bind ?_ (fun _ => ?_)
set_option maxHeartbeats 8000000 in
set_option maxRecDepth 100000 in
theorem fly_Check.calls (k : Nat) (A0 : Option Addr) (c0 : Nat) (l0 : List (S71)) (r : Int) (w : World) (hr0 : Kd.C k71 w A0 l0.length l0) (hc0 : l0.length ≤ c0) (h : fly_Check.f k l0 = some r) :
    Calls Try.prog 76 #[.slice A0 l0.length c0] w fun e w' => e = .returned (.int .i64 r) ∧ Below w.heap.size w w' := by
 have hu71 := Try.underlying71
 have hu36 := Try.underlying36
 have HR0 := Aside0.mk hr0
 have HC0 := Aside0.mk hc0
 clear hr0 hc0
 have HB := Aside0.mk (Below.refl w.heap.size w)
 have H : (if (l0.length : Int) > 64 then (some 2) else (if (l0.length : Int) = 0 then (some 3) else (fly_Check.l0 k l0 l0 (l0.length : Int) 0))) = some r := h
 clear h
 refine Or.elim (Classical.em ((l0.length : Int) > 64)) (fun c2 => ?p2_) (fun c2 => ?n2_)
 case' p2_ =>
  rw [if_pos c2] at H
  have c2b0 : decide (64 < (l0.length : Int)) = true := decide_eq_true c2
  have c2b1 : decide (64 < l0.length) = true := decide_eq_true (by omega)
  clear c2
  have hm1_0 := Aside0.mk trivial
 case' n2_ =>
  rw [if_neg c2] at H
  have c2b0 : decide (64 < (l0.length : Int)) = false := decide_eq_false c2
  have c2b1 : decide (64 < l0.length) = false := decide_eq_false (by omega)
  clear c2
  refine Or.elim (Classical.em ((l0.length : Int) = 0)) (fun c3 => ?p3_) (fun c3 => ?n3_)
  case' p3_ =>
   rw [if_pos c3] at H
   have c3b0 : ((l0.length : Int) == 0) = true := beq_iff_eq.mpr c3
   have c3b1 : ((l0.length : Int) != 0) = false := bne_eq_false_iff_eq.mpr c3
   clear c3
   have hm1_0 := Aside0.mk trivial
  case' n3_ =>
   rw [if_neg c3] at H
   have c3b0 : ((l0.length : Int) == 0) = false := beq_eq_false_iff_ne.mpr c3
   have c3b1 : ((l0.length : Int) != 0) = true := bne_iff_ne.mpr c3
   have c3b2 : ¬ (l0 = []) := fun h_ => c3 (by rw [h_]; rfl)
   have hm1_1 := Aside0.mk trivial
 all_goals
  first
   | clear hm1_0
     obtain rfl := Option.some.inj H
     go_enter Try.func76, Try.ntmps76
     go_wp2
     repeat (go_quiet (fail); try go_wp2)
     go_ret
     exact ⟨by first | rfl | (simp [errW_none, errW_some] <;> rfl) | (simp [*, errW_none, errW_some] <;> rfl), by repeat (first | (with_reducible first | exact HB.out | apply below_alloc | apply pw_below_drewN | apply below_drew1) | exact HB.out)⟩
   | clear hm1_1
     have H' := Aside0.mk H
     clear H
     go_enter Try.func76, Try.ntmps76
     go_wp2
     repeat (go_quiet (fail); try go_wp2)
     go_loopg [16] k (fun kq v16 w' => ∃ (x16_1 : Int), v16 = .int .i64 x16_1 ∧ Aside0 (fly_Check.l0 kq l0 l0 (l0.length : Int) x16_1 = some r) ∧ Aside0 (kq ≤ k) ∧ Aside0 (Below w.heap.size w w'))
     case atStart => exact ⟨(0), (by first | rfl | (simp; done) | (simp [*]; done)), H', ⟨Nat.le_refl _⟩, ⟨by repeat (first | (with_reducible first | exact HB.out | apply below_alloc | apply pw_below_drewN | apply below_drew1) | exact HB.out)⟩⟩
     case round =>
      clear H'
      (try clear c2); (try clear c2b0); (try clear c2b1); (try clear p2); (try clear c3); (try clear c3b0); (try clear c3b1); (try clear c3b2)
      obtain ⟨x16_1, rfl, HA, HK1, HB⟩ := hrel
      cases gk with
      | zero => exact absurd HA.out (by simp [fly_Check.l0])
      | succ k1 =>
       have H := HA.out
       clear HA
       simp only [fly_Check.l0] at H
       by_cases c4 : x16_1 < (l0.length : Int)
       · rw [if_pos c4] at H
         have c4b0 : decide (x16_1 < (l0.length : Int)) = true := decide_eq_true c4
         clear c4
         by_cases c5 : 0 ≤ x16_1
         · rw [if_pos c5] at H
           have c5b0 : decide (0 ≤ x16_1) = true := decide_eq_true c5
           clear c5
           by_cases c6 : x16_1 < (l0.length : Int)
           · rw [if_pos c6] at H
             have c6b0 : decide (x16_1 < (l0.length : Int)) = true := decide_eq_true c6
             clear c6
             have HC7 := Aside0.mk H
             clear H
             have p102 : 0 ≤ (x16_1 : Int) := of_decide_eq_true (by first | (with_reducible assumption) | assumption)
             have q102 : x16_1 < (l0.length : Int) := of_decide_eq_true (by first | (with_reducible assumption) | assumption)
             obtain ⟨ad102, e102, hx102_0, hx102_1, hx102_2, hx102_3⟩ := at_T71 HR0.out x16_1 p102 q102
             cases e102
             replace hx102_0 := (HB.out.cell (World.block_lt_of_cell? w _ hx102_0)).trans hx102_0
             replace hx102_1 := (HB.out.cell (World.block_lt_of_cell? w _ hx102_1)).trans hx102_1
             replace hx102_2 := (HB.out.cell (World.block_lt_of_cell? w _ hx102_2)).trans hx102_2
             replace hx102_3 := (HB.out.cell (World.block_lt_of_cell? w _ hx102_3)).trans hx102_3
             replace p102 := eq_true p102
             replace q102 := eq_true q102
             go_upto_region 8 with (first | ((with_reducible refine gate_dst (N := 4) rfl ?_); refine box_event ?hg (N := 4) ?hd (cs := #[.int .i64 0, .int .i64 0, .int .i64 0, .int .i64 0]) (t := 71) ?hr ?_; (case hd => rfl); (case hg => rfl); (case hr => first | (go_simp; done) | (go_simp; rfl)); intro gb103 hg wx6bdc1 hbox hb; have n0_ := Aside0.mk (below_step (by repeat (first | (with_reducible first | exact HB.out | apply below_alloc | apply pw_below_drewN | apply below_drew1) | exact HB.out)) hb); have n1_ := Aside0.mk (hbox); have n2_ := Aside0.mk ((by rw [hg]; exact (below_size (by repeat (first | (with_reducible first | exact HB.out | apply below_alloc | apply pw_below_drewN | apply below_drew1) | exact HB.out))) : w.heap.size ≤ gb103)); have n3_ := Aside0.mk ((by rw [hg]; exact (below_size (by repeat (first | (with_reducible first | exact HB.out | apply below_alloc | apply pw_below_drewN | apply below_drew1) | exact HB.out))) : w.heap.size ≤ gb103)); clear HB; have HB := n0_; have BK103 := n1_; have GW103 := n2_; have GE103 := n3_; clear n0_ n1_ n2_ n3_; clear hb hbox hg; have hczx6bdc1 : wx6bdc1.cell? ⟨gb103, 0, none⟩ = some (.int .i64 0) := (blk_cell BK103.out 0).trans rfl; have hczx6bdc2 : wx6bdc1.cell? ⟨gb103, 1, none⟩ = some (.int .i64 0) := (blk_cell BK103.out 1).trans rfl; have hczx6bdc3 : wx6bdc1.cell? ⟨gb103, 2, none⟩ = some (.int .i64 0) := (blk_cell BK103.out 2).trans rfl; have hczx6bdc4 : wx6bdc1.cell? ⟨gb103, 3, none⟩ = some (.int .i64 0) := (blk_cell BK103.out 3).trans rfl; have hfzx6bdc1 := blk_frozen BK103.out 0; have hfzx6bdc2 := blk_frozen BK103.out 1; have hfzx6bdc3 := blk_frozen BK103.out 2; have hfzx6bdc4 := blk_frozen BK103.out 3))
             repeat (go_quiet (first | ((with_reducible refine gate_dst (N := 4) rfl ?_); refine box_event ?hg (N := 4) ?hd (cs := #[.int .i64 0, .int .i64 0, .int .i64 0, .int .i64 0]) (t := 71) ?hr ?_; (case hd => rfl); (case hg => rfl); (case hr => first | (go_simp; done) | (go_simp; rfl)); intro gb103 hg wx6bdc1 hbox hb; have n0_ := Aside0.mk (below_step (by repeat (first | (with_reducible first | exact HB.out | apply below_alloc | apply pw_below_drewN | apply below_drew1) | exact HB.out)) hb); have n1_ := Aside0.mk (hbox); have n2_ := Aside0.mk ((by rw [hg]; exact (below_size (by repeat (first | (with_reducible first | exact HB.out | apply below_alloc | apply pw_below_drewN | apply below_drew1) | exact HB.out))) : w.heap.size ≤ gb103)); have n3_ := Aside0.mk ((by rw [hg]; exact (below_size (by repeat (first | (with_reducible first | exact HB.out | apply below_alloc | apply pw_below_drewN | apply below_drew1) | exact HB.out))) : w.heap.size ≤ gb103)); clear HB; have HB := n0_; have BK103 := n1_; have GW103 := n2_; have GE103 := n3_; clear n0_ n1_ n2_ n3_; clear hb hbox hg; have hczx6bdc1 : wx6bdc1.cell? ⟨gb103, 0, none⟩ = some (.int .i64 0) := (blk_cell BK103.out 0).trans rfl; have hczx6bdc2 : wx6bdc1.cell? ⟨gb103, 1, none⟩ = some (.int .i64 0) := (blk_cell BK103.out 1).trans rfl; have hczx6bdc3 : wx6bdc1.cell? ⟨gb103, 2, none⟩ = some (.int .i64 0) := (blk_cell BK103.out 2).trans rfl; have hczx6bdc4 : wx6bdc1.cell? ⟨gb103, 3, none⟩ = some (.int .i64 0) := (blk_cell BK103.out 3).trans rfl; have hfzx6bdc1 := blk_frozen BK103.out 0; have hfzx6bdc2 := blk_frozen BK103.out 1; have hfzx6bdc3 := blk_frozen BK103.out 2; have hfzx6bdc4 := blk_frozen BK103.out 3)); go_upto_region 8 with (first | ((with_reducible refine gate_dst (N := 4) rfl ?_); refine box_event ?hg (N := 4) ?hd (cs := #[.int .i64 0, .int .i64 0, .int .i64 0, .int .i64 0]) (t := 71) ?hr ?_; (case hd => rfl); (case hg => rfl); (case hr => first | (go_simp; done) | (go_simp; rfl)); intro gb103 hg wx6bdc1 hbox hb; have n0_ := Aside0.mk (below_step (by repeat (first | (with_reducible first | exact HB.out | apply below_alloc | apply pw_below_drewN | apply below_drew1) | exact HB.out)) hb); have n1_ := Aside0.mk (hbox); have n2_ := Aside0.mk ((by rw [hg]; exact (below_size (by repeat (first | (with_reducible first | exact HB.out | apply below_alloc | apply pw_below_drewN | apply below_drew1) | exact HB.out))) : w.heap.size ≤ gb103)); have n3_ := Aside0.mk ((by rw [hg]; exact (below_size (by repeat (first | (with_reducible first | exact HB.out | apply below_alloc | apply pw_below_drewN | apply below_drew1) | exact HB.out))) : w.heap.size ≤ gb103)); clear HB; have HB := n0_; have BK103 := n1_; have GW103 := n2_; have GE103 := n3_; clear n0_ n1_ n2_ n3_; clear hb hbox hg; have hczx6bdc1 : wx6bdc1.cell? ⟨gb103, 0, none⟩ = some (.int .i64 0) := (blk_cell BK103.out 0).trans rfl; have hczx6bdc2 : wx6bdc1.cell? ⟨gb103, 1, none⟩ = some (.int .i64 0) := (blk_cell BK103.out 1).trans rfl; have hczx6bdc3 : wx6bdc1.cell? ⟨gb103, 2, none⟩ = some (.int .i64 0) := (blk_cell BK103.out 2).trans rfl; have hczx6bdc4 : wx6bdc1.cell? ⟨gb103, 3, none⟩ = some (.int .i64 0) := (blk_cell BK103.out 3).trans rfl; have hfzx6bdc1 := blk_frozen BK103.out 0; have hfzx6bdc2 := blk_frozen BK103.out 1; have hfzx6bdc3 := blk_frozen BK103.out 2; have hfzx6bdc4 := blk_frozen BK103.out 3)))
             (try simp only [Act.put, List.setIfInBounds_toArray, List.set_cons_zero, List.set_cons_succ])
             go_cut [43] (fun v43 wc => ∃ (kq : Nat) (x43_6 : Bool), v43 = .bool x43_6 ∧ Aside0 (fly_Check.j1 kq l0 l0 (l0.length : Int) x16_1 x43_6 ((rd_T71 l0 x16_1).f0) ((rd_T71 l0 x16_1).f1.f0) ((rd_T71 l0 x16_1).f1.f1) ((rd_T71 l0 x16_1).f2) = some r) ∧ Aside0 (kq ≤ k1) ∧ Aside0 (wc.heap[gb103]? = some (.cells #[.int .i64 ((rd_T71 l0 x16_1).f0), .int .i64 ((rd_T71 l0 x16_1).f1.f0), .int .i64 ((rd_T71 l0 x16_1).f1.f1), .int .i64 ((rd_T71 l0 x16_1).f2)] 71 (0, 0))) ∧ Aside0 (Below w.heap.size w wc))
             case first =>
              have H := HC7.out
              clear HC7
              refine Or.elim (Classical.em (((rd_T71 l0 x16_1).f0) < 0)) (fun c10 => ?p5_) (fun c10 => ?n5_)
              case' p5_ =>
               rw [if_pos c10] at H
               have c10b0 : decide (((rd_T71 l0 x16_1).f0) < 0) = true := decide_eq_true c10
               clear c10
               (first | rw [c10b0] | (simp only [i64_w, i32_w]; rw [c10b0]) | skip)
               have hm4_0 := Aside0.mk trivial
              case' n5_ =>
               rw [if_neg c10] at H
               have c10b0 : decide (((rd_T71 l0 x16_1).f0) < 0) = false := decide_eq_false c10
               clear c10
               (first | rw [c10b0] | (simp only [i64_w, i32_w]; rw [c10b0]) | skip)
               refine Or.elim (Classical.em (((rd_T71 l0 x16_1).f0) > 200000)) (fun c12 => ?p6_) (fun c12 => ?n6_)
               case' p6_ =>
                rw [if_pos c12] at H
                have c12b0 : decide (200000 < ((rd_T71 l0 x16_1).f0)) = true := decide_eq_true c12
                clear c12
                have hm4_0 := Aside0.mk trivial
               case' n6_ =>
                rw [if_neg c12] at H
                have c12b0 : decide (200000 < ((rd_T71 l0 x16_1).f0)) = false := decide_eq_false c12
                clear c12
                refine Or.elim (Classical.em (x16_1 > 0)) (fun c14 => ?p7_) (fun c14 => ?n7_)
                case' p7_ =>
                 rw [if_pos c14] at H
                 have c14b0 : decide (0 < x16_1) = true := decide_eq_true c14
                 clear c14
                 obtain ⟨ji15, hji15⟩ : ∃ j_ : Int, (wrap64 (x16_1 - 1)) = j_ := ⟨_, rfl⟩
                 replace H : (if 0 ≤ (ji15) then (if (ji15) < (l0.length : Int) then (fly_Check.j1 k1 l0 l0 (l0.length : Int) x16_1 (decide (((rd_T71 l0 x16_1).f0) ≤ ((rd_T71 l0 (ji15)).f0))) ((rd_T71 l0 x16_1).f0) ((rd_T71 l0 x16_1).f1.f0) ((rd_T71 l0 x16_1).f1.f1) ((rd_T71 l0 x16_1).f2)) else (none)) else (none)) = some r := by first | (rw [hji15] at H; exact H) | (simp only [hji15] at H ⊢; exact H)
                 have hji15w : (IntKind.i64.wrap (x16_1 - 1)) = ji15 := (i64_w _).trans hji15
                 refine Or.elim (Classical.em (0 ≤ (ji15))) (fun c16 => ?p8_) (fun c16 => ?n8_)
                 case' p8_ =>
                  rw [if_pos c16] at H
                  have c16b0 : decide (0 ≤ (ji15)) = true := decide_eq_true c16
                  clear c16
                  refine Or.elim (Classical.em ((ji15) < (l0.length : Int))) (fun c17 => ?p9_) (fun c17 => ?n9_)
                  case' p9_ =>
                   rw [if_pos c17] at H
                   have c17b0 : decide ((ji15) < (l0.length : Int)) = true := decide_eq_true c17
                   clear c17
                   have hm4_1 := Aside0.mk trivial
                  case' n9_ =>
                   rw [if_neg c17] at H
                   exact absurd H (by simp)
                 case' n8_ =>
                  rw [if_neg c16] at H
                  exact absurd H (by simp)
                case' n7_ =>
                 rw [if_neg c14] at H
                 have c14b0 : decide (0 < x16_1) = false := decide_eq_false c14
                 clear c14
                 have hm4_0 := Aside0.mk trivial
              all_goals
               have H' := Aside0.mk H
               clear H
               have hczzd1 : wx6bdc1.cell? ⟨gb103, 0, none⟩ = some (.int .i64 0) := (blk_cell BK103.out 0).trans rfl
               have hczzd2 : wx6bdc1.cell? ⟨gb103, 1, none⟩ = some (.int .i64 0) := (blk_cell BK103.out 1).trans rfl
               have hczzd3 : wx6bdc1.cell? ⟨gb103, 2, none⟩ = some (.int .i64 0) := (blk_cell BK103.out 2).trans rfl
               have hczzd4 : wx6bdc1.cell? ⟨gb103, 3, none⟩ = some (.int .i64 0) := (blk_cell BK103.out 3).trans rfl
               have hfzzd1 := blk_frozen BK103.out 0
               have hfzzd2 := blk_frozen BK103.out 1
               have hfzzd3 := blk_frozen BK103.out 2
               have hfzzd4 := blk_frozen BK103.out 3
               first
                | clear hm4_0
                  go_wp2
                  repeat (go_quiet (fail); try go_wp2)
                  go_meet
                  case rel => first | (exact ⟨_, (true), (by first | rfl | (simp; done) | (simp [*]; done)), H', ⟨by have := HK1.out; first | omega | exact Nat.le_refl _⟩, ⟨by (with_reducible repeat (first | refine blk_drewN ?_ _ | refine blk_drew ?_ | refine blk_alloc ?_ _)); refine blk_put (cs := #[.int .i64 ((rd_T71 l0 x16_1).f0), .int .i64 ((rd_T71 l0 x16_1).f1.f0), .int .i64 ((rd_T71 l0 x16_1).f1.f1), .int .i64 0]) ?_ 3 _ rfl; (with_reducible repeat (first | refine blk_drewN ?_ _ | refine blk_drew ?_ | refine blk_alloc ?_ _)); refine blk_put (cs := #[.int .i64 ((rd_T71 l0 x16_1).f0), .int .i64 ((rd_T71 l0 x16_1).f1.f0), .int .i64 0, .int .i64 0]) ?_ 2 _ rfl; (with_reducible repeat (first | refine blk_drewN ?_ _ | refine blk_drew ?_ | refine blk_alloc ?_ _)); refine blk_put (cs := #[.int .i64 ((rd_T71 l0 x16_1).f0), .int .i64 0, .int .i64 0, .int .i64 0]) ?_ 1 _ rfl; (with_reducible repeat (first | refine blk_drewN ?_ _ | refine blk_drew ?_ | refine blk_alloc ?_ _)); refine blk_put (cs := #[.int .i64 0, .int .i64 0, .int .i64 0, .int .i64 0]) ?_ 0 _ rfl; (with_reducible repeat (first | refine blk_drewN ?_ _ | refine blk_drew ?_ | refine blk_alloc ?_ _)); exact BK103.out⟩, ⟨by repeat (first | (with_reducible first | exact HB.out | apply below_alloc | apply pw_below_drewN | apply below_drew1 | refine below_set ?_ GE103.out) | exact HB.out)⟩⟩) | (exact ⟨_, (false), (by first | rfl | (simp; done) | (simp [*]; done)), H', ⟨by have := HK1.out; first | omega | exact Nat.le_refl _⟩, ⟨by (with_reducible repeat (first | refine blk_drewN ?_ _ | refine blk_drew ?_ | refine blk_alloc ?_ _)); refine blk_put (cs := #[.int .i64 ((rd_T71 l0 x16_1).f0), .int .i64 ((rd_T71 l0 x16_1).f1.f0), .int .i64 ((rd_T71 l0 x16_1).f1.f1), .int .i64 0]) ?_ 3 _ rfl; (with_reducible repeat (first | refine blk_drewN ?_ _ | refine blk_drew ?_ | refine blk_alloc ?_ _)); refine blk_put (cs := #[.int .i64 ((rd_T71 l0 x16_1).f0), .int .i64 ((rd_T71 l0 x16_1).f1.f0), .int .i64 0, .int .i64 0]) ?_ 2 _ rfl; (with_reducible repeat (first | refine blk_drewN ?_ _ | refine blk_drew ?_ | refine blk_alloc ?_ _)); refine blk_put (cs := #[.int .i64 ((rd_T71 l0 x16_1).f0), .int .i64 0, .int .i64 0, .int .i64 0]) ?_ 1 _ rfl; (with_reducible repeat (first | refine blk_drewN ?_ _ | refine blk_drew ?_ | refine blk_alloc ?_ _)); refine blk_put (cs := #[.int .i64 0, .int .i64 0, .int .i64 0, .int .i64 0]) ?_ 0 _ rfl; (with_reducible repeat (first | refine blk_drewN ?_ _ | refine blk_drew ?_ | refine blk_alloc ?_ _)); exact BK103.out⟩, ⟨by repeat (first | (with_reducible first | exact HB.out | apply below_alloc | apply pw_below_drewN | apply below_drew1 | refine below_set ?_ GE103.out) | exact HB.out)⟩⟩)
                | clear hm4_1
                  have p104 : 0 ≤ ((ji15) : Int) := of_decide_eq_true (by first | (with_reducible assumption) | assumption)
                  have q104 : (ji15) < (l0.length : Int) := of_decide_eq_true (by first | (with_reducible assumption) | assumption)
                  obtain ⟨ad104, e104, hx104_0, hx104_1, hx104_2, hx104_3⟩ := at_T71 HR0.out (ji15) p104 q104
                  obtain rfl : ad102 = ad104 := (by injection e104)
                  have hn104_0 : ad102.block ≠ gb103 := Nat.ne_of_lt (Nat.lt_of_lt_of_le (by have := World.block_lt_of_cell? _ _ hx104_0; first | rwa [add_block] at this | exact this) GW103.out)
                  have hn104_1 : ad102.block ≠ gb103 := Nat.ne_of_lt (Nat.lt_of_lt_of_le (by have := World.block_lt_of_cell? _ _ hx104_0; first | rwa [add_block] at this | exact this) GW103.out)
                  have hn104_2 : ad102.block ≠ gb103 := Nat.ne_of_lt (Nat.lt_of_lt_of_le (by have := World.block_lt_of_cell? _ _ hx104_0; first | rwa [add_block] at this | exact this) GW103.out)
                  have hn104_3 : ad102.block ≠ gb103 := Nat.ne_of_lt (Nat.lt_of_lt_of_le (by have := World.block_lt_of_cell? _ _ hx104_0; first | rwa [add_block] at this | exact this) GW103.out)
                  replace hx104_0 := (HB.out.cell (World.block_lt_of_cell? w _ hx104_0)).trans hx104_0
                  replace hx104_1 := (HB.out.cell (World.block_lt_of_cell? w _ hx104_1)).trans hx104_1
                  replace hx104_2 := (HB.out.cell (World.block_lt_of_cell? w _ hx104_2)).trans hx104_2
                  replace hx104_3 := (HB.out.cell (World.block_lt_of_cell? w _ hx104_3)).trans hx104_3
                  (try have hb104_0 := fun (n_ : Nat) => (show (wx6bdc1.drewN n_).cell? _ = some _ from hx104_0))
                  replace hx104_0 := (cell_far (p := ⟨gb103, 0, none⟩) (by first | (rw [add_block]; exact hn104_0) | (show (Addr.add _ _).block ≠ _; rw [add_block]; exact hn104_0) | exact hn104_0) (.int .i64 ((rd_T71 l0 x16_1).f0))).trans hx104_0
                  (try replace hb104_0 := fun (n_ : Nat) => ((cell_far (p := ⟨gb103, 0, none⟩) (by first | (rw [add_block]; exact hn104_0) | (show (Addr.add _ _).block ≠ _; rw [add_block]; exact hn104_0) | exact hn104_0) (.int .i64 ((rd_T71 l0 x16_1).f0)))).trans (hb104_0 n_))
                  (try have hb104_1 := fun (n_ : Nat) => (show (wx6bdc1.drewN n_).cell? _ = some _ from hx104_1))
                  replace hx104_1 := (cell_far (p := ⟨gb103, 0, none⟩) (by first | (rw [add_block]; exact hn104_0) | (show (Addr.add _ _).block ≠ _; rw [add_block]; exact hn104_0) | exact hn104_0) (.int .i64 ((rd_T71 l0 x16_1).f0))).trans hx104_1
                  (try replace hb104_1 := fun (n_ : Nat) => ((cell_far (p := ⟨gb103, 0, none⟩) (by first | (rw [add_block]; exact hn104_0) | (show (Addr.add _ _).block ≠ _; rw [add_block]; exact hn104_0) | exact hn104_0) (.int .i64 ((rd_T71 l0 x16_1).f0)))).trans (hb104_1 n_))
                  (try have hb104_2 := fun (n_ : Nat) => (show (wx6bdc1.drewN n_).cell? _ = some _ from hx104_2))
                  replace hx104_2 := (cell_far (p := ⟨gb103, 0, none⟩) (by first | (rw [add_block]; exact hn104_0) | (show (Addr.add _ _).block ≠ _; rw [add_block]; exact hn104_0) | exact hn104_0) (.int .i64 ((rd_T71 l0 x16_1).f0))).trans hx104_2
                  (try replace hb104_2 := fun (n_ : Nat) => ((cell_far (p := ⟨gb103, 0, none⟩) (by first | (rw [add_block]; exact hn104_0) | (show (Addr.add _ _).block ≠ _; rw [add_block]; exact hn104_0) | exact hn104_0) (.int .i64 ((rd_T71 l0 x16_1).f0)))).trans (hb104_2 n_))
                  (try have hb104_3 := fun (n_ : Nat) => (show (wx6bdc1.drewN n_).cell? _ = some _ from hx104_3))
                  replace hx104_3 := (cell_far (p := ⟨gb103, 0, none⟩) (by first | (rw [add_block]; exact hn104_0) | (show (Addr.add _ _).block ≠ _; rw [add_block]; exact hn104_0) | exact hn104_0) (.int .i64 ((rd_T71 l0 x16_1).f0))).trans hx104_3
                  (try replace hb104_3 := fun (n_ : Nat) => ((cell_far (p := ⟨gb103, 0, none⟩) (by first | (rw [add_block]; exact hn104_0) | (show (Addr.add _ _).block ≠ _; rw [add_block]; exact hn104_0) | exact hn104_0) (.int .i64 ((rd_T71 l0 x16_1).f0)))).trans (hb104_3 n_))
                  replace hx104_0 := (cell_far (p := ⟨gb103, 1, none⟩) (by first | (rw [add_block]; exact hn104_1) | (show (Addr.add _ _).block ≠ _; rw [add_block]; exact hn104_1) | exact hn104_1) (.int .i64 ((rd_T71 l0 x16_1).f1.f0))).trans hx104_0
                  (try replace hb104_0 := fun (n_ : Nat) => ((cell_far (p := ⟨gb103, 1, none⟩) (by first | (rw [add_block]; exact hn104_1) | (show (Addr.add _ _).block ≠ _; rw [add_block]; exact hn104_1) | exact hn104_1) (.int .i64 ((rd_T71 l0 x16_1).f1.f0)))).trans (hb104_0 n_))
                  replace hx104_1 := (cell_far (p := ⟨gb103, 1, none⟩) (by first | (rw [add_block]; exact hn104_1) | (show (Addr.add _ _).block ≠ _; rw [add_block]; exact hn104_1) | exact hn104_1) (.int .i64 ((rd_T71 l0 x16_1).f1.f0))).trans hx104_1
                  (try replace hb104_1 := fun (n_ : Nat) => ((cell_far (p := ⟨gb103, 1, none⟩) (by first | (rw [add_block]; exact hn104_1) | (show (Addr.add _ _).block ≠ _; rw [add_block]; exact hn104_1) | exact hn104_1) (.int .i64 ((rd_T71 l0 x16_1).f1.f0)))).trans (hb104_1 n_))
                  replace hx104_2 := (cell_far (p := ⟨gb103, 1, none⟩) (by first | (rw [add_block]; exact hn104_1) | (show (Addr.add _ _).block ≠ _; rw [add_block]; exact hn104_1) | exact hn104_1) (.int .i64 ((rd_T71 l0 x16_1).f1.f0))).trans hx104_2
                  (try replace hb104_2 := fun (n_ : Nat) => ((cell_far (p := ⟨gb103, 1, none⟩) (by first | (rw [add_block]; exact hn104_1) | (show (Addr.add _ _).block ≠ _; rw [add_block]; exact hn104_1) | exact hn104_1) (.int .i64 ((rd_T71 l0 x16_1).f1.f0)))).trans (hb104_2 n_))
                  replace hx104_3 := (cell_far (p := ⟨gb103, 1, none⟩) (by first | (rw [add_block]; exact hn104_1) | (show (Addr.add _ _).block ≠ _; rw [add_block]; exact hn104_1) | exact hn104_1) (.int .i64 ((rd_T71 l0 x16_1).f1.f0))).trans hx104_3
                  (try replace hb104_3 := fun (n_ : Nat) => ((cell_far (p := ⟨gb103, 1, none⟩) (by first | (rw [add_block]; exact hn104_1) | (show (Addr.add _ _).block ≠ _; rw [add_block]; exact hn104_1) | exact hn104_1) (.int .i64 ((rd_T71 l0 x16_1).f1.f0)))).trans (hb104_3 n_))
                  replace hx104_0 := (cell_far (p := ⟨gb103, 2, none⟩) (by first | (rw [add_block]; exact hn104_2) | (show (Addr.add _ _).block ≠ _; rw [add_block]; exact hn104_2) | exact hn104_2) (.int .i64 ((rd_T71 l0 x16_1).f1.f1))).trans hx104_0
                  (try replace hb104_0 := fun (n_ : Nat) => ((cell_far (p := ⟨gb103, 2, none⟩) (by first | (rw [add_block]; exact hn104_2) | (show (Addr.add _ _).block ≠ _; rw [add_block]; exact hn104_2) | exact hn104_2) (.int .i64 ((rd_T71 l0 x16_1).f1.f1)))).trans (hb104_0 n_))
                  replace hx104_1 := (cell_far (p := ⟨gb103, 2, none⟩) (by first | (rw [add_block]; exact hn104_2) | (show (Addr.add _ _).block ≠ _; rw [add_block]; exact hn104_2) | exact hn104_2) (.int .i64 ((rd_T71 l0 x16_1).f1.f1))).trans hx104_1
                  (try replace hb104_1 := fun (n_ : Nat) => ((cell_far (p := ⟨gb103, 2, none⟩) (by first | (rw [add_block]; exact hn104_2) | (show (Addr.add _ _).block ≠ _; rw [add_block]; exact hn104_2) | exact hn104_2) (.int .i64 ((rd_T71 l0 x16_1).f1.f1)))).trans (hb104_1 n_))
                  replace hx104_2 := (cell_far (p := ⟨gb103, 2, none⟩) (by first | (rw [add_block]; exact hn104_2) | (show (Addr.add _ _).block ≠ _; rw [add_block]; exact hn104_2) | exact hn104_2) (.int .i64 ((rd_T71 l0 x16_1).f1.f1))).trans hx104_2
                  (try replace hb104_2 := fun (n_ : Nat) => ((cell_far (p := ⟨gb103, 2, none⟩) (by first | (rw [add_block]; exact hn104_2) | (show (Addr.add _ _).block ≠ _; rw [add_block]; exact hn104_2) | exact hn104_2) (.int .i64 ((rd_T71 l0 x16_1).f1.f1)))).trans (hb104_2 n_))
                  replace hx104_3 := (cell_far (p := ⟨gb103, 2, none⟩) (by first | (rw [add_block]; exact hn104_2) | (show (Addr.add _ _).block ≠ _; rw [add_block]; exact hn104_2) | exact hn104_2) (.int .i64 ((rd_T71 l0 x16_1).f1.f1))).trans hx104_3
                  (try replace hb104_3 := fun (n_ : Nat) => ((cell_far (p := ⟨gb103, 2, none⟩) (by first | (rw [add_block]; exact hn104_2) | (show (Addr.add _ _).block ≠ _; rw [add_block]; exact hn104_2) | exact hn104_2) (.int .i64 ((rd_T71 l0 x16_1).f1.f1)))).trans (hb104_3 n_))
                  replace hx104_0 := (cell_far (p := ⟨gb103, 3, none⟩) (by first | (rw [add_block]; exact hn104_3) | (show (Addr.add _ _).block ≠ _; rw [add_block]; exact hn104_3) | exact hn104_3) (.int .i64 ((rd_T71 l0 x16_1).f2))).trans hx104_0
                  (try replace hb104_0 := fun (n_ : Nat) => ((cell_far (p := ⟨gb103, 3, none⟩) (by first | (rw [add_block]; exact hn104_3) | (show (Addr.add _ _).block ≠ _; rw [add_block]; exact hn104_3) | exact hn104_3) (.int .i64 ((rd_T71 l0 x16_1).f2)))).trans (hb104_0 n_))
                  replace hx104_1 := (cell_far (p := ⟨gb103, 3, none⟩) (by first | (rw [add_block]; exact hn104_3) | (show (Addr.add _ _).block ≠ _; rw [add_block]; exact hn104_3) | exact hn104_3) (.int .i64 ((rd_T71 l0 x16_1).f2))).trans hx104_1
                  (try replace hb104_1 := fun (n_ : Nat) => ((cell_far (p := ⟨gb103, 3, none⟩) (by first | (rw [add_block]; exact hn104_3) | (show (Addr.add _ _).block ≠ _; rw [add_block]; exact hn104_3) | exact hn104_3) (.int .i64 ((rd_T71 l0 x16_1).f2)))).trans (hb104_1 n_))
                  replace hx104_2 := (cell_far (p := ⟨gb103, 3, none⟩) (by first | (rw [add_block]; exact hn104_3) | (show (Addr.add _ _).block ≠ _; rw [add_block]; exact hn104_3) | exact hn104_3) (.int .i64 ((rd_T71 l0 x16_1).f2))).trans hx104_2
                  (try replace hb104_2 := fun (n_ : Nat) => ((cell_far (p := ⟨gb103, 3, none⟩) (by first | (rw [add_block]; exact hn104_3) | (show (Addr.add _ _).block ≠ _; rw [add_block]; exact hn104_3) | exact hn104_3) (.int .i64 ((rd_T71 l0 x16_1).f2)))).trans (hb104_2 n_))
                  replace hx104_3 := (cell_far (p := ⟨gb103, 3, none⟩) (by first | (rw [add_block]; exact hn104_3) | (show (Addr.add _ _).block ≠ _; rw [add_block]; exact hn104_3) | exact hn104_3) (.int .i64 ((rd_T71 l0 x16_1).f2))).trans hx104_3
                  (try replace hb104_3 := fun (n_ : Nat) => ((cell_far (p := ⟨gb103, 3, none⟩) (by first | (rw [add_block]; exact hn104_3) | (show (Addr.add _ _).block ≠ _; rw [add_block]; exact hn104_3) | exact hn104_3) (.int .i64 ((rd_T71 l0 x16_1).f2)))).trans (hb104_3 n_))
                  (try have hy104_0 := hb104_0)
                  (try clear hb104_0)
                  (try have hy104_1 := hb104_1)
                  (try clear hb104_1)
                  (try have hy104_2 := hb104_2)
                  (try clear hb104_2)
                  (try have hy104_3 := hb104_3)
                  (try clear hb104_3)
                  clear hn104_0
                  clear hn104_1
                  clear hn104_2
                  clear hn104_3
                  replace p104 := eq_true p104
                  replace q104 := eq_true q104
                  go_wp2
                  repeat (go_quiet (fail); try go_wp2)
                  go_meet
                  case rel => exact ⟨_, (decide (((rd_T71 l0 x16_1).f0) ≤ ((rd_T71 l0 (ji15)).f0))), (by first | rfl | (simp; done) | (simp only [← hji15] <;> (first | rfl | (simp; done))) | (simp [*]; done) | (refine congrArg Value.bool ?_; rw [Bool.eq_iff_iff]; simp only [beq_iff_eq, decide_eq_true_eq, List.length_take]; omega)), H', ⟨by have := HK1.out; first | omega | exact Nat.le_refl _⟩, ⟨by (with_reducible repeat (first | refine blk_drewN ?_ _ | refine blk_drew ?_ | refine blk_alloc ?_ _)); refine blk_put (cs := #[.int .i64 ((rd_T71 l0 x16_1).f0), .int .i64 ((rd_T71 l0 x16_1).f1.f0), .int .i64 ((rd_T71 l0 x16_1).f1.f1), .int .i64 0]) ?_ 3 _ rfl; (with_reducible repeat (first | refine blk_drewN ?_ _ | refine blk_drew ?_ | refine blk_alloc ?_ _)); refine blk_put (cs := #[.int .i64 ((rd_T71 l0 x16_1).f0), .int .i64 ((rd_T71 l0 x16_1).f1.f0), .int .i64 0, .int .i64 0]) ?_ 2 _ rfl; (with_reducible repeat (first | refine blk_drewN ?_ _ | refine blk_drew ?_ | refine blk_alloc ?_ _)); refine blk_put (cs := #[.int .i64 ((rd_T71 l0 x16_1).f0), .int .i64 0, .int .i64 0, .int .i64 0]) ?_ 1 _ rfl; (with_reducible repeat (first | refine blk_drewN ?_ _ | refine blk_drew ?_ | refine blk_alloc ?_ _)); refine blk_put (cs := #[.int .i64 0, .int .i64 0, .int .i64 0, .int .i64 0]) ?_ 0 _ rfl; (with_reducible repeat (first | refine blk_drewN ?_ _ | refine blk_drew ?_ | refine blk_alloc ?_ _)); exact BK103.out⟩, ⟨by repeat (first | (with_reducible first | exact HB.out | apply below_alloc | apply pw_below_drewN | apply below_drew1 | refine below_set ?_ GE103.out) | exact HB.out)⟩⟩
             case rest =>
              clear HC7
              (try clear c1); (try clear p1); (try clear q1); (try clear hx1); (try clear c2); (try clear c2b0); (try clear c2b1); (try clear p2); (try clear c3); (try clear c3b0); (try clear c3b1); (try clear c3b2); (try clear c4); (try clear c4b0); (try clear c5); (try clear c5b0); (try clear c6); (try clear c6b0); (try clear p6); (try clear c7); (try clear c10); (try clear c10b0); (try clear p10); (try clear q10); (try clear hx10); (try clear c12); (try clear c12b0); (try clear c14); (try clear c14b0); (try clear c16); (try clear c16b0); (try clear c17); (try clear c17b0); (try clear hczzc1); (try clear hczzc2); (try clear hczzc3); (try clear hczzc4); (try clear hczzc5); (try clear hczzc6); (try clear hczzc7)
              (try clear hczzc8); (try clear hczzc9); (try clear hczzc10); (try clear hczzc11); (try clear hczzc12); (try clear hczzc13); (try clear hczzc14); (try clear hczzc15); (try clear hczzc16); (try clear hczx6bdc1); (try clear hczx6bdc2); (try clear hczx6bdc3); (try clear hczx6bdc4); (try clear hfzzc1); (try clear hfzzc2); (try clear hfzzc3); (try clear hfzzc4); (try clear hfzzc5); (try clear hfzzc6); (try clear hfzzc7); (try clear hfzzc8); (try clear hfzzc9); (try clear hfzzc10); (try clear hfzzc11); (try clear hfzzc12); (try clear hfzzc13); (try clear hfzzc14); (try clear hfzzc15); (try clear hfzzc16); (try clear hfzx6bdc1); (try clear hfzx6bdc2); (try clear hfzx6bdc3); (try clear hfzx6bdc4); (try clear hx102_0); (try clear hx102_1); (try clear hx102_2); (try clear hx102_3); (try clear hx104_0); (try clear hx104_1); (try clear hx104_2)
              (try clear hx104_3); (try clear p102); (try clear p104); (try clear p2); (try clear q102); (try clear q104)
              obtain ⟨kq, x43_6, rfl, HA, HJ6, BK103, HB⟩ := hcut
              cases kq with
              | zero => exact absurd HA.out (by simp [fly_Check.j1])
              | succ kj6 =>
               have H := HA.out
               clear HA
               simp only [fly_Check.j1] at H
               refine Or.elim (Classical.em (x43_6 = true)) (fun c20 => ?p11_) (fun c20 => ?n11_)
               case' p11_ =>
                subst c20
                have H1 : (some 12) = some r := by rw [if_pos rfl] at H; exact H
                clear H
                have H := H1
                clear H1
                have hm10_0 := Aside0.mk trivial
               case' n11_ =>
                replace c20 := Bool.eq_false_iff.mpr c20
                subst c20
                have H1 : ((plane_Check.f ((rd_T71 l0 x16_1).f1.f0) ((rd_T71 l0 x16_1).f1.f1)).bind fun t105 => (if t105 = 0 then (if ((rd_T71 l0 x16_1).f2) < 0 then (some 4) else (if ((rd_T71 l0 x16_1).f2) > 60000 then (some 4) else (fly_Check.l0 kj6 l0 l0 (l0.length : Int) (wrap64 (x16_1 + 1))))) else (some t105))) = some r := by rw [if_neg (show ¬ (false = true) by decide)] at H; exact H
                clear H
                have H := H1
                clear H1
                replace H := Option.bind_eq_some_iff.mp H
                obtain ⟨t105, A210, H⟩ := H
                replace H : (if t105 = 0 then (if ((rd_T71 l0 x16_1).f2) < 0 then (some 4) else (if ((rd_T71 l0 x16_1).f2) > 60000 then (some 4) else (fly_Check.l0 kj6 l0 l0 (l0.length : Int) (wrap64 (x16_1 + 1))))) else (some t105)) = some r := H
                have A21 := Aside0.mk A210
                clear A210
                refine Or.elim (Classical.em (t105 = 0)) (fun c22 => ?p12_) (fun c22 => ?n12_)
                case' p12_ =>
                 rw [if_pos c22] at H
                 have c22b0 : (t105 == 0) = true := beq_iff_eq.mpr c22
                 have c22b1 : (t105 != 0) = false := bne_eq_false_iff_eq.mpr c22
                 clear c22
                 refine Or.elim (Classical.em (((rd_T71 l0 x16_1).f2) < 0)) (fun c23 => ?p13_) (fun c23 => ?n13_)
                 case' p13_ =>
                  rw [if_pos c23] at H
                  have c23b0 : decide (((rd_T71 l0 x16_1).f2) < 0) = true := decide_eq_true c23
                  clear c23
                  have hm10_1 := Aside0.mk trivial
                 case' n13_ =>
                  rw [if_neg c23] at H
                  have c23b0 : decide (((rd_T71 l0 x16_1).f2) < 0) = false := decide_eq_false c23
                  clear c23
                  refine Or.elim (Classical.em (((rd_T71 l0 x16_1).f2) > 60000)) (fun c27 => ?p14_) (fun c27 => ?n14_)
                  case' p14_ =>
                   rw [if_pos c27] at H
                   have c27b0 : decide (60000 < ((rd_T71 l0 x16_1).f2)) = true := decide_eq_true c27
                   clear c27
                   have hm10_1 := Aside0.mk trivial
                  case' n14_ =>
                   rw [if_neg c27] at H
                   have c27b0 : decide (60000 < ((rd_T71 l0 x16_1).f2)) = false := decide_eq_false c27
                   clear c27
                   have hm10_2 := Aside0.mk trivial
                case' n12_ =>
                 rw [if_neg c22] at H
                 have c22b0 : (t105 == 0) = false := beq_eq_false_iff_ne.mpr c22
                 have c22b1 : (t105 != 0) = true := bne_iff_ne.mpr c22
                 have hm10_3 := Aside0.mk trivial
               all_goals
                first
                 | (first | (have _hm := hm10_0) | (have _hm := hm10_1) | (have _hm := hm10_3))
                   obtain rfl := Option.some.inj H
                   first
                    | clear hm10_0
                      go_wp2
                      repeat (go_quiet (fail); try go_wp2)
                      go_ret
                      exact ⟨by first | rfl | (simp [errW_none, errW_some] <;> rfl) | (simp [*, errW_none, errW_some] <;> rfl), by repeat (first | (with_reducible first | exact HB.out | apply below_alloc | apply pw_below_drewN | apply below_drew1 | refine below_set ?_ GE103.out) | exact HB.out)⟩
                    | (first | (have _hm := hm10_1) | (have _hm := hm10_3))
                      have hczze1 : wc.cell? ⟨gb103, 0, none⟩ = some (.int .i64 ((rd_T71 l0 x16_1).f0)) := (blk_cell BK103.out 0).trans rfl
                      have hczze2 : wc.cell? ⟨gb103, 1, none⟩ = some (.int .i64 ((rd_T71 l0 x16_1).f1.f0)) := (blk_cell BK103.out 1).trans rfl
                      have hczze3 : wc.cell? ⟨gb103, 2, none⟩ = some (.int .i64 ((rd_T71 l0 x16_1).f1.f1)) := (blk_cell BK103.out 2).trans rfl
                      have hczze4 : wc.cell? ⟨gb103, 3, none⟩ = some (.int .i64 ((rd_T71 l0 x16_1).f2)) := (blk_cell BK103.out 3).trans rfl
                      have hfzze1 := blk_frozen BK103.out 0
                      have hfzze2 := blk_frozen BK103.out 1
                      have hfzze3 := blk_frozen BK103.out 2
                      have hfzze4 := blk_frozen BK103.out 3
                      go_wp2_with (first | (go_at_call 57; (with_reducible refine (plane_Check.calls ((rd_T71 l0 x16_1).f1.f0) ((rd_T71 l0 x16_1).f1.f1) t105 _ A21.out).mono ?_); rintro e wxafa61 ⟨rfl, hb⟩; have n0_ := Aside0.mk (blk_below (g := gb103) (o := .cells #[.int .i64 ((rd_T71 l0 x16_1).f0), .int .i64 ((rd_T71 l0 x16_1).f1.f0), .int .i64 ((rd_T71 l0 x16_1).f1.f1), .int .i64 ((rd_T71 l0 x16_1).f2)] 71 (0, 0)) (by (with_reducible repeat (first | refine blk_drewN ?_ _ | refine blk_drew ?_ | refine blk_alloc ?_ _)); exact BK103.out) hb); have n1_ := Aside0.mk (below_step (by repeat (first | (with_reducible first | exact HB.out | apply below_alloc | apply pw_below_drewN | apply below_drew1 | refine below_set ?_ GE103.out) | exact HB.out)) hb); clear BK103; clear HB; have BK103 := n0_; have HB := n1_; clear n0_ n1_; (try clear hb); (try clear hb2); (try clear hk); (try clear hi); have hczyd9b110 : wxafa61.cell? ⟨gb103, 0, none⟩ = some (.int .i64 ((rd_T71 l0 x16_1).f0)) := (blk_cell BK103.out 0).trans rfl; have hczyd9b111 : wxafa61.cell? ⟨gb103, 1, none⟩ = some (.int .i64 ((rd_T71 l0 x16_1).f1.f0)) := (blk_cell BK103.out 1).trans rfl; have hczyd9b112 : wxafa61.cell? ⟨gb103, 2, none⟩ = some (.int .i64 ((rd_T71 l0 x16_1).f1.f1)) := (blk_cell BK103.out 2).trans rfl; have hczyd9b113 : wxafa61.cell? ⟨gb103, 3, none⟩ = some (.int .i64 ((rd_T71 l0 x16_1).f2)) := (blk_cell BK103.out 3).trans rfl; have hfzyd9b114 := blk_frozen BK103.out 0; have hfzyd9b115 := blk_frozen BK103.out 1; have hfzyd9b116 := blk_frozen BK103.out 2; have hfzyd9b117 := blk_frozen BK103.out 3))
                      first
                       | clear hm10_1
                         repeat (go_quiet (first | (go_at_call 57; (with_reducible refine (plane_Check.calls ((rd_T71 l0 x16_1).f1.f0) ((rd_T71 l0 x16_1).f1.f1) t105 _ A21.out).mono ?_); rintro e wxafa61 ⟨rfl, hb⟩; have n0_ := Aside0.mk (blk_below (g := gb103) (o := .cells #[.int .i64 ((rd_T71 l0 x16_1).f0), .int .i64 ((rd_T71 l0 x16_1).f1.f0), .int .i64 ((rd_T71 l0 x16_1).f1.f1), .int .i64 ((rd_T71 l0 x16_1).f2)] 71 (0, 0)) (by (with_reducible repeat (first | refine blk_drewN ?_ _ | refine blk_drew ?_ | refine blk_alloc ?_ _)); exact BK103.out) hb); have n1_ := Aside0.mk (below_step (by repeat (first | (with_reducible first | exact HB.out | apply below_alloc | apply pw_below_drewN | apply below_drew1 | refine below_set ?_ GE103.out) | exact HB.out)) hb); clear BK103; clear HB; have BK103 := n0_; have HB := n1_; clear n0_ n1_; (try clear hb); (try clear hb2); (try clear hk); (try clear hi); have hczze5 : wxafa61.cell? ⟨gb103, 0, none⟩ = some (.int .i64 ((rd_T71 l0 x16_1).f0)) := (blk_cell BK103.out 0).trans rfl; have hczze6 : wxafa61.cell? ⟨gb103, 1, none⟩ = some (.int .i64 ((rd_T71 l0 x16_1).f1.f0)) := (blk_cell BK103.out 1).trans rfl; have hczze7 : wxafa61.cell? ⟨gb103, 2, none⟩ = some (.int .i64 ((rd_T71 l0 x16_1).f1.f1)) := (blk_cell BK103.out 2).trans rfl; have hczze8 : wxafa61.cell? ⟨gb103, 3, none⟩ = some (.int .i64 ((rd_T71 l0 x16_1).f2)) := (blk_cell BK103.out 3).trans rfl; have hfzze5 := blk_frozen BK103.out 0; have hfzze6 := blk_frozen BK103.out 1; have hfzze7 := blk_frozen BK103.out 2; have hfzze8 := blk_frozen BK103.out 3)); try go_wp2_with (first | (go_at_call 57; (with_reducible refine (plane_Check.calls ((rd_T71 l0 x16_1).f1.f0) ((rd_T71 l0 x16_1).f1.f1) t105 _ A21.out).mono ?_); rintro e wxafa61 ⟨rfl, hb⟩; have n0_ := Aside0.mk (blk_below (g := gb103) (o := .cells #[.int .i64 ((rd_T71 l0 x16_1).f0), .int .i64 ((rd_T71 l0 x16_1).f1.f0), .int .i64 ((rd_T71 l0 x16_1).f1.f1), .int .i64 ((rd_T71 l0 x16_1).f2)] 71 (0, 0)) (by (with_reducible repeat (first | refine blk_drewN ?_ _ | refine blk_drew ?_ | refine blk_alloc ?_ _)); exact BK103.out) hb); have n1_ := Aside0.mk (below_step (by repeat (first | (with_reducible first | exact HB.out | apply below_alloc | apply pw_below_drewN | apply below_drew1 | refine below_set ?_ GE103.out) | exact HB.out)) hb); clear BK103; clear HB; have BK103 := n0_; have HB := n1_; clear n0_ n1_; (try clear hb); (try clear hb2); (try clear hk); (try clear hi); have hczze5 : wxafa61.cell? ⟨gb103, 0, none⟩ = some (.int .i64 ((rd_T71 l0 x16_1).f0)) := (blk_cell BK103.out 0).trans rfl; have hczze6 : wxafa61.cell? ⟨gb103, 1, none⟩ = some (.int .i64 ((rd_T71 l0 x16_1).f1.f0)) := (blk_cell BK103.out 1).trans rfl; have hczze7 : wxafa61.cell? ⟨gb103, 2, none⟩ = some (.int .i64 ((rd_T71 l0 x16_1).f1.f1)) := (blk_cell BK103.out 2).trans rfl; have hczze8 : wxafa61.cell? ⟨gb103, 3, none⟩ = some (.int .i64 ((rd_T71 l0 x16_1).f2)) := (blk_cell BK103.out 3).trans rfl; have hfzze5 := blk_frozen BK103.out 0; have hfzze6 := blk_frozen BK103.out 1; have hfzze7 := blk_frozen BK103.out 2; have hfzze8 := blk_frozen BK103.out 3)))
                         go_ret
                         exact ⟨by first | rfl | (simp [errW_none, errW_some] <;> rfl) | (simp [*, errW_none, errW_some] <;> rfl), by repeat (first | (with_reducible first | exact HB.out | apply below_alloc | apply pw_below_drewN | apply below_drew1 | refine below_set ?_ GE103.out) | exact HB.out)⟩
                       | clear hm10_3
                         repeat (go_quiet (first | (go_at_call 57; (with_reducible refine (plane_Check.calls ((rd_T71 l0 x16_1).f1.f0) ((rd_T71 l0 x16_1).f1.f1) t105 _ A21.out).mono ?_); rintro e wxa9ca1 ⟨rfl, hb⟩; have n0_ := Aside0.mk (blk_below (g := gb103) (o := .cells #[.int .i64 ((rd_T71 l0 x16_1).f0), .int .i64 ((rd_T71 l0 x16_1).f1.f0), .int .i64 ((rd_T71 l0 x16_1).f1.f1), .int .i64 ((rd_T71 l0 x16_1).f2)] 71 (0, 0)) (by (with_reducible repeat (first | refine blk_drewN ?_ _ | refine blk_drew ?_ | refine blk_alloc ?_ _)); exact BK103.out) hb); have n1_ := Aside0.mk (below_step (by repeat (first | (with_reducible first | exact HB.out | apply below_alloc | apply pw_below_drewN | apply below_drew1 | refine below_set ?_ GE103.out) | exact HB.out)) hb); clear BK103; clear HB; have BK103 := n0_; have HB := n1_; clear n0_ n1_; (try clear hb); (try clear hb2); (try clear hk); (try clear hi))); try go_wp2_with (first | (go_at_call 57; (with_reducible refine (plane_Check.calls ((rd_T71 l0 x16_1).f1.f0) ((rd_T71 l0 x16_1).f1.f1) t105 _ A21.out).mono ?_); rintro e wxa9ca1 ⟨rfl, hb⟩; have n0_ := Aside0.mk (blk_below (g := gb103) (o := .cells #[.int .i64 ((rd_T71 l0 x16_1).f0), .int .i64 ((rd_T71 l0 x16_1).f1.f0), .int .i64 ((rd_T71 l0 x16_1).f1.f1), .int .i64 ((rd_T71 l0 x16_1).f2)] 71 (0, 0)) (by (with_reducible repeat (first | refine blk_drewN ?_ _ | refine blk_drew ?_ | refine blk_alloc ?_ _)); exact BK103.out) hb); have n1_ := Aside0.mk (below_step (by repeat (first | (with_reducible first | exact HB.out | apply below_alloc | apply pw_below_drewN | apply below_drew1 | refine below_set ?_ GE103.out) | exact HB.out)) hb); clear BK103; clear HB; have BK103 := n0_; have HB := n1_; clear n0_ n1_; (try clear hb); (try clear hb2); (try clear hk); (try clear hi))))
                         go_ret
                         exact ⟨by first | rfl | (simp [errW_none, errW_some] <;> rfl) | (simp [*, errW_none, errW_some] <;> rfl), by repeat (first | (with_reducible first | exact HB.out | apply below_alloc | apply pw_below_drewN | apply below_drew1 | refine below_set ?_ GE103.out) | exact HB.out)⟩
                 | clear hm10_2
                   have H' := Aside0.mk H
                   clear H
                   have hczze1 : wc.cell? ⟨gb103, 0, none⟩ = some (.int .i64 ((rd_T71 l0 x16_1).f0)) := (blk_cell BK103.out 0).trans rfl
                   have hczze2 : wc.cell? ⟨gb103, 1, none⟩ = some (.int .i64 ((rd_T71 l0 x16_1).f1.f0)) := (blk_cell BK103.out 1).trans rfl
                   have hczze3 : wc.cell? ⟨gb103, 2, none⟩ = some (.int .i64 ((rd_T71 l0 x16_1).f1.f1)) := (blk_cell BK103.out 2).trans rfl
                   have hczze4 : wc.cell? ⟨gb103, 3, none⟩ = some (.int .i64 ((rd_T71 l0 x16_1).f2)) := (blk_cell BK103.out 3).trans rfl
                   have hfzze1 := blk_frozen BK103.out 0
                   have hfzze2 := blk_frozen BK103.out 1
                   have hfzze3 := blk_frozen BK103.out 2
                   have hfzze4 := blk_frozen BK103.out 3
                   go_wp2_with (first | (go_at_call 57; (with_reducible refine (plane_Check.calls ((rd_T71 l0 x16_1).f1.f0) ((rd_T71 l0 x16_1).f1.f1) t105 _ A21.out).mono ?_); rintro e wxafa61 ⟨rfl, hb⟩; have n0_ := Aside0.mk (blk_below (g := gb103) (o := .cells #[.int .i64 ((rd_T71 l0 x16_1).f0), .int .i64 ((rd_T71 l0 x16_1).f1.f0), .int .i64 ((rd_T71 l0 x16_1).f1.f1), .int .i64 ((rd_T71 l0 x16_1).f2)] 71 (0, 0)) (by (with_reducible repeat (first | refine blk_drewN ?_ _ | refine blk_drew ?_ | refine blk_alloc ?_ _)); exact BK103.out) hb); have n1_ := Aside0.mk (below_step (by repeat (first | (with_reducible first | exact HB.out | apply below_alloc | apply pw_below_drewN | apply below_drew1 | refine below_set ?_ GE103.out) | exact HB.out)) hb); clear BK103; clear HB; have BK103 := n0_; have HB := n1_; clear n0_ n1_; (try clear hb); (try clear hb2); (try clear hk); (try clear hi); have hczyd9b110 : wxafa61.cell? ⟨gb103, 0, none⟩ = some (.int .i64 ((rd_T71 l0 x16_1).f0)) := (blk_cell BK103.out 0).trans rfl; have hczyd9b111 : wxafa61.cell? ⟨gb103, 1, none⟩ = some (.int .i64 ((rd_T71 l0 x16_1).f1.f0)) := (blk_cell BK103.out 1).trans rfl; have hczyd9b112 : wxafa61.cell? ⟨gb103, 2, none⟩ = some (.int .i64 ((rd_T71 l0 x16_1).f1.f1)) := (blk_cell BK103.out 2).trans rfl; have hczyd9b113 : wxafa61.cell? ⟨gb103, 3, none⟩ = some (.int .i64 ((rd_T71 l0 x16_1).f2)) := (blk_cell BK103.out 3).trans rfl; have hfzyd9b114 := blk_frozen BK103.out 0; have hfzyd9b115 := blk_frozen BK103.out 1; have hfzyd9b116 := blk_frozen BK103.out 2; have hfzyd9b117 := blk_frozen BK103.out 3))
                   repeat (go_quiet (first | (go_at_call 57; (with_reducible refine (plane_Check.calls ((rd_T71 l0 x16_1).f1.f0) ((rd_T71 l0 x16_1).f1.f1) t105 _ A21.out).mono ?_); rintro e wxafa61 ⟨rfl, hb⟩; have n0_ := Aside0.mk (blk_below (g := gb103) (o := .cells #[.int .i64 ((rd_T71 l0 x16_1).f0), .int .i64 ((rd_T71 l0 x16_1).f1.f0), .int .i64 ((rd_T71 l0 x16_1).f1.f1), .int .i64 ((rd_T71 l0 x16_1).f2)] 71 (0, 0)) (by (with_reducible repeat (first | refine blk_drewN ?_ _ | refine blk_drew ?_ | refine blk_alloc ?_ _)); exact BK103.out) hb); have n1_ := Aside0.mk (below_step (by repeat (first | (with_reducible first | exact HB.out | apply below_alloc | apply pw_below_drewN | apply below_drew1 | refine below_set ?_ GE103.out) | exact HB.out)) hb); clear BK103; clear HB; have BK103 := n0_; have HB := n1_; clear n0_ n1_; (try clear hb); (try clear hb2); (try clear hk); (try clear hi); have hczze5 : wxafa61.cell? ⟨gb103, 0, none⟩ = some (.int .i64 ((rd_T71 l0 x16_1).f0)) := (blk_cell BK103.out 0).trans rfl; have hczze6 : wxafa61.cell? ⟨gb103, 1, none⟩ = some (.int .i64 ((rd_T71 l0 x16_1).f1.f0)) := (blk_cell BK103.out 1).trans rfl; have hczze7 : wxafa61.cell? ⟨gb103, 2, none⟩ = some (.int .i64 ((rd_T71 l0 x16_1).f1.f1)) := (blk_cell BK103.out 2).trans rfl; have hczze8 : wxafa61.cell? ⟨gb103, 3, none⟩ = some (.int .i64 ((rd_T71 l0 x16_1).f2)) := (blk_cell BK103.out 3).trans rfl; have hfzze5 := blk_frozen BK103.out 0; have hfzze6 := blk_frozen BK103.out 1; have hfzze7 := blk_frozen BK103.out 2; have hfzze8 := blk_frozen BK103.out 3)); try go_wp2_with (first | (go_at_call 57; (with_reducible refine (plane_Check.calls ((rd_T71 l0 x16_1).f1.f0) ((rd_T71 l0 x16_1).f1.f1) t105 _ A21.out).mono ?_); rintro e wxafa61 ⟨rfl, hb⟩; have n0_ := Aside0.mk (blk_below (g := gb103) (o := .cells #[.int .i64 ((rd_T71 l0 x16_1).f0), .int .i64 ((rd_T71 l0 x16_1).f1.f0), .int .i64 ((rd_T71 l0 x16_1).f1.f1), .int .i64 ((rd_T71 l0 x16_1).f2)] 71 (0, 0)) (by (with_reducible repeat (first | refine blk_drewN ?_ _ | refine blk_drew ?_ | refine blk_alloc ?_ _)); exact BK103.out) hb); have n1_ := Aside0.mk (below_step (by repeat (first | (with_reducible first | exact HB.out | apply below_alloc | apply pw_below_drewN | apply below_drew1 | refine below_set ?_ GE103.out) | exact HB.out)) hb); clear BK103; clear HB; have BK103 := n0_; have HB := n1_; clear n0_ n1_; (try clear hb); (try clear hb2); (try clear hk); (try clear hi); have hczze5 : wxafa61.cell? ⟨gb103, 0, none⟩ = some (.int .i64 ((rd_T71 l0 x16_1).f0)) := (blk_cell BK103.out 0).trans rfl; have hczze6 : wxafa61.cell? ⟨gb103, 1, none⟩ = some (.int .i64 ((rd_T71 l0 x16_1).f1.f0)) := (blk_cell BK103.out 1).trans rfl; have hczze7 : wxafa61.cell? ⟨gb103, 2, none⟩ = some (.int .i64 ((rd_T71 l0 x16_1).f1.f1)) := (blk_cell BK103.out 2).trans rfl; have hczze8 : wxafa61.cell? ⟨gb103, 3, none⟩ = some (.int .i64 ((rd_T71 l0 x16_1).f2)) := (blk_cell BK103.out 3).trans rfl; have hfzze5 := blk_frozen BK103.out 0; have hfzze6 := blk_frozen BK103.out 1; have hfzze7 := blk_frozen BK103.out 2; have hfzze8 := blk_frozen BK103.out 3)))
                   go_roundg kj6
                   case measure => have := HK1.out; have := HJ6.out; omega
                   case rel => exact ⟨(wrap64 (x16_1 + 1)), (by first | rfl | (simp; done) | (simp [*]; done)), H', ⟨by have := HK1.out; have := HJ6.out; omega⟩, ⟨by repeat (first | (with_reducible first | exact HB.out | apply below_alloc | apply pw_below_drewN | apply below_drew1 | refine below_set ?_ GE103.out) | exact HB.out)⟩⟩
           · rw [if_neg c6] at H
             exact absurd H (by simp)
         · rw [if_neg c5] at H
           exact absurd H (by simp)
       · rw [if_neg c4] at H
         have c4b0 : decide (x16_1 < (l0.length : Int)) = false := decide_eq_false c4
         clear c4
         obtain rfl := Option.some.inj H
         go_wp2
         repeat (go_quiet (fail); try go_wp2)
         go_ret
         exact ⟨by first | rfl | (simp [errW_none, errW_some] <;> rfl) | (simp [*, errW_none, errW_some] <;> rfl), by repeat (first | (with_reducible first | exact HB.out | apply below_alloc | apply pw_below_drewN | apply below_drew1) | exact HB.out)⟩

/-! ### num_DivDown: function 111 -/
def num_DivDown.j0 : Nat → Int → Int → Bool → Option (Int × Int)
  | 0, _, _, _ => none
  | k + 1, x0, x1, x10 => if x10 = true then (some (0, 2)) else (if x1 = 0 then (none) else (if (Int.tmod x0 x1) = 0 then (some (wrap64 (Int.tdiv x0 x1), 0)) else (if ((decide (x0 < 0)) != (decide (x1 < 0))) = true then (some (wrap64 ((wrap64 (Int.tdiv x0 x1)) - 1), 0)) else (some (wrap64 (Int.tdiv x0 x1), 0)))))
def num_DivDown.f (k : Nat) (a0 : Int) (a1 : Int) : Option (Int × Int) := if a1 = 0 then (some (0, 10)) else (if a0 = (-9223372036854775808) then (num_DivDown.j0 k a0 a1 (a1 == (-1))) else (num_DivDown.j0 k a0 a1 false))
theorem num_DivDown.mono_l : ∀ k, (∀ y0 y1 y2, LeO (num_DivDown.j0 k y0 y1 y2) (num_DivDown.j0 (k + 1) y0 y1 y2))
  | 0 => fun _ _ _ r h => by simp [num_DivDown.j0] at h
  | k + 1 => by
    have ih0 := num_DivDown.mono_l k
    · intro y0 y1 y2
      unfold num_DivDown.j0
      repeat' first
      | (with_reducible exact ih0 _ _ _)
      | (with_reducible exact LeO.refl _)
      | (with_reducible exact LeO.none _)
      | (with_reducible refine LeO.ite ?_ ?_)
      | (with_reducible refine LeO.bind ?_ (fun _ => ?_))
      | exact ih0 _ _ _
      | exact LeO.none _
      | refine LeO.ite ?_ ?_
      | refine LeO.bind ?_ (fun _ => ?_)
theorem num_DivDown.mono : ∀ a0 a1 k, LeO (num_DivDown.f k a0 a1) (num_DivDown.f (k + 1) a0 a1) := by
  intro a0 a1 k
  have ih0 := num_DivDown.mono_l k
  unfold num_DivDown.f
  repeat' first
      | (with_reducible exact ih0 _ _ _)
      | (with_reducible exact LeO.refl _)
      | (with_reducible exact LeO.none _)
      | (with_reducible refine LeO.ite ?_ ?_)
      | (with_reducible refine LeO.bind ?_ (fun _ => ?_))
      | exact ih0 _ _ _
      | exact LeO.none _
      | refine LeO.ite ?_ ?_
      | refine LeO.bind ?_ (fun _ => ?_)
set_option maxHeartbeats 8000000 in
set_option maxRecDepth 100000 in
theorem num_DivDown.calls (k : Nat) (a0 : Int) (a1 : Int) (r1 : Int) (r2 : Int) (w : World) (h : num_DivDown.f k a0 a1 = some (r1, r2)) :
    Calls Try.prog 111 #[.int .i64 a0, .int .i64 a1] w fun e w' => e = .returned (.tuple #[.int .i64 r1, .int .i64 r2]) ∧ Below w.heap.size w w' := by
 have HB := Aside0.mk (Below.refl w.heap.size w)
 have H : (if a1 = 0 then (some (0, 10)) else (if a0 = (-9223372036854775808) then (num_DivDown.j0 k a0 a1 (a1 == (-1))) else (num_DivDown.j0 k a0 a1 false))) = some (r1, r2) := h
 clear h
 refine Or.elim (Classical.em (a1 = 0)) (fun c3 => ?p2_) (fun c3 => ?n2_)
 case' p2_ =>
  rw [if_pos c3] at H
  have c3b0 : (a1 == 0) = true := beq_iff_eq.mpr c3
  have c3b1 : (a1 != 0) = false := bne_eq_false_iff_eq.mpr c3
  clear c3
  simp only [Option.some.injEq, Prod.mk.injEq] at H
  obtain ⟨rfl, rfl⟩ := H
  have hm1_0 := Aside0.mk trivial
 case' n2_ =>
  rw [if_neg c3] at H
  have c3b0 : (a1 == 0) = false := beq_eq_false_iff_ne.mpr c3
  have c3b1 : (a1 != 0) = true := bne_iff_ne.mpr c3
  have HC4 := Aside0.mk H
  clear H
  have hm1_1 := Aside0.mk trivial
 all_goals
  go_enter Try.func111, Try.ntmps111
  first
   | clear hm1_0
     go_wp2
     go_ret2
     exact ⟨by first | rfl | (simp [errW_none, errW_some] <;> rfl) | (simp [*, errW_none, errW_some] <;> rfl), by repeat (first | (with_reducible first | exact HB.out | apply below_alloc | apply pw_below_drewN | apply below_drew1) | exact HB.out)⟩
   | clear hm1_1
     go_upto_region 3 with (fail)
     go_cut [10] (fun v10 wc => ∃ (kq : Nat) (x10_3 : Bool), v10 = .bool x10_3 ∧ Aside0 (num_DivDown.j0 kq a0 a1 x10_3 = some (r1, r2)) ∧ Aside0 (kq ≤ k) ∧ Aside0 (Below w.heap.size w wc))
     case first =>
      have H := HC4.out
      clear HC4
      refine Or.elim (Classical.em (a0 = (-9223372036854775808))) (fun c5 => ?p4_) (fun c5 => ?n4_)
      case' p4_ =>
       rw [if_pos c5] at H
       have c5b0 : (a0 == (-9223372036854775808)) = true := beq_iff_eq.mpr c5
       have c5b1 : (a0 != (-9223372036854775808)) = false := bne_eq_false_iff_eq.mpr c5
       clear c5
       (first | rw [c5b0] | (simp only [i64_w, i32_w]; rw [c5b0]) | skip)
      case' n4_ =>
       rw [if_neg c5] at H
       have c5b0 : (a0 == (-9223372036854775808)) = false := beq_eq_false_iff_ne.mpr c5
       have c5b1 : (a0 != (-9223372036854775808)) = true := bne_iff_ne.mpr c5
       (first | rw [c5b0] | (simp only [i64_w, i32_w]; rw [c5b0]) | skip)
      all_goals
       have H' := Aside0.mk H
       clear H
       go_wp2
       go_meet
       case rel => first | (exact ⟨_, ((a1 == (-1))), (by first | rfl | (simp; done) | (simp [*]; done)), H', ⟨by first | omega | exact Nat.le_refl _⟩, ⟨by repeat (first | (with_reducible first | exact HB.out | apply below_alloc | apply pw_below_drewN | apply below_drew1) | exact HB.out)⟩⟩) | (exact ⟨_, (false), (by first | rfl | (simp; done) | (simp [*]; done)), H', ⟨by first | omega | exact Nat.le_refl _⟩, ⟨by repeat (first | (with_reducible first | exact HB.out | apply below_alloc | apply pw_below_drewN | apply below_drew1) | exact HB.out)⟩⟩)
     case rest =>
      clear HC4
      (try clear c1); (try clear p2); (try clear c3); (try clear c3b0); (try clear c3b1); (try clear c5); (try clear c5b0); (try clear c5b1)
      obtain ⟨kq, x10_3, rfl, HA, HJ3, HB⟩ := hcut
      cases kq with
      | zero => exact absurd HA.out (by simp [num_DivDown.j0])
      | succ kj3 =>
       have H := HA.out
       clear HA
       simp only [num_DivDown.j0] at H
       refine Or.elim (Classical.em (x10_3 = true)) (fun c6 => ?p6_) (fun c6 => ?n6_)
       case' p6_ =>
        subst c6
        have H1 : (some (0, 2)) = some (r1, r2) := by rw [if_pos rfl] at H; exact H
        clear H
        have H := H1
        clear H1
        simp only [Option.some.injEq, Prod.mk.injEq] at H
        obtain ⟨rfl, rfl⟩ := H
       case' n6_ =>
        replace c6 := Bool.eq_false_iff.mpr c6
        subst c6
        have H1 : (if a1 = 0 then (none) else (if (Int.tmod a0 a1) = 0 then (some (wrap64 (Int.tdiv a0 a1), 0)) else (if ((decide (a0 < 0)) != (decide (a1 < 0))) = true then (some (wrap64 ((wrap64 (Int.tdiv a0 a1)) - 1), 0)) else (some (wrap64 (Int.tdiv a0 a1), 0))))) = some (r1, r2) := by rw [if_neg (show ¬ (false = true) by decide)] at H; exact H
        clear H
        have H := H1
        clear H1
        refine Or.elim (Classical.em (a1 = 0)) (fun c7 => ?p7_) (fun c7 => ?n7_)
        case' p7_ =>
         rw [if_pos c7] at H
         exact absurd H (by simp)
        case' n7_ =>
         rw [if_neg c7] at H
         have c7b0 : (a1 == 0) = false := beq_eq_false_iff_ne.mpr c7
         have c7b1 : (a1 != 0) = true := bne_iff_ne.mpr c7
         refine Or.elim (Classical.em ((Int.tmod a0 a1) = 0)) (fun c8 => ?p8_) (fun c8 => ?n8_)
         case' p8_ =>
          rw [if_pos c8] at H
          have c8b0 : ((Int.tmod a0 a1) == 0) = true := beq_iff_eq.mpr c8
          have c8b1 : ((Int.tmod a0 a1) != 0) = false := bne_eq_false_iff_eq.mpr c8
          clear c8
          simp only [Option.some.injEq, Prod.mk.injEq] at H
          obtain ⟨rfl, rfl⟩ := H
         case' n8_ =>
          rw [if_neg c8] at H
          have c8b0 : ((Int.tmod a0 a1) == 0) = false := beq_eq_false_iff_ne.mpr c8
          have c8b1 : ((Int.tmod a0 a1) != 0) = true := bne_iff_ne.mpr c8
          refine Or.elim (Classical.em (((decide (a0 < 0)) != (decide (a1 < 0))) = true)) (fun c9 => ?p9_) (fun c9 => ?n9_)
          case' p9_ =>
           rw [if_pos c9] at H
           have c9b0 : ((decide (a0 < 0)) != (decide (a1 < 0))) = true := c9
           (try (have c9b1 : decide ((decide (a0 < 0)) = (decide (a1 < 0))) = false := by simpa using c9))
           (try (have c9b2 : ((decide (a0 < 0)) == (decide (a1 < 0))) = false := by simpa using c9))
           (try (have c9b3 : ¬ ((decide (a0 < 0)) = (decide (a1 < 0))) := by simpa using c9))
           clear c9
           simp only [Option.some.injEq, Prod.mk.injEq] at H
           obtain ⟨rfl, rfl⟩ := H
          case' n9_ =>
           rw [if_neg c9] at H
           have c9b0 : ((decide (a0 < 0)) != (decide (a1 < 0))) = false := by simpa using c9
           (try (have c9b1 : decide ((decide (a0 < 0)) = (decide (a1 < 0))) = true := by simpa using c9))
           (try (have c9b2 : ((decide (a0 < 0)) == (decide (a1 < 0))) = true := by simpa using c9))
           clear c9
           simp only [Option.some.injEq, Prod.mk.injEq] at H
           obtain ⟨rfl, rfl⟩ := H
       all_goals
        go_wp2
        go_ret2
        exact ⟨by first | rfl | (simp [errW_none, errW_some] <;> rfl) | (simp [*, errW_none, errW_some] <;> rfl), by repeat (first | (with_reducible first | exact HB.out | apply below_alloc | apply pw_below_drewN | apply below_drew1) | exact HB.out)⟩

/-! ### plane_Toward: function 110 -/
def plane_Toward.j0 : Nat → Int → Int → Bool → Int → Int → Int → Int → Option (Int × Int × Int)
  | 0, _, _, _, _, _, _, _ => none
  | k + 1, x2, x3, x18, x107000, x107001, x108000, x108001 => if x18 = true then (some (0, 0, 4)) else ((num_DivDown.f k (wrap64 ((wrap64 (x108000 - x107000)) * x2)) x3).bind fun bt111 => ((num_DivDown.f k (wrap64 ((wrap64 (x108001 - x107001)) * x2)) x3).bind fun bt113 => (some (wrap64 (x107000 + bt111.1), wrap64 (x107001 + bt113.1), 0))))
def plane_Toward.f (k : Nat) (a0_0 : Int) (a0_1 : Int) (a1_0 : Int) (a1_1 : Int) (a2 : Int) (a3 : Int) : Option (Int × Int × Int) := if a3 ≤ 0 then (some (0, 0, 10)) else (if a3 > 200000 then (plane_Toward.j0 k a2 a3 true a0_0 a0_1 a1_0 a1_1) else (if a2 < 0 then (plane_Toward.j0 k a2 a3 true a0_0 a0_1 a1_0 a1_1) else (if a2 > a3 then (plane_Toward.j0 k a2 a3 true a0_0 a0_1 a1_0 a1_1) else ((plane_Check.f a0_0 a0_1).bind fun t109 => (if t109 = 0 then ((plane_Check.f a1_0 a1_1).bind fun t110 => (plane_Toward.j0 k a2 a3 (t110 != 0) a0_0 a0_1 a1_0 a1_1)) else (plane_Toward.j0 k a2 a3 true a0_0 a0_1 a1_0 a1_1))))))
theorem plane_Toward.mono_l : ∀ k, (∀ y0 y1 y2 y3 y4 y5 y6, LeO (plane_Toward.j0 k y0 y1 y2 y3 y4 y5 y6) (plane_Toward.j0 (k + 1) y0 y1 y2 y3 y4 y5 y6))
  | 0 => fun _ _ _ _ _ _ _ r h => by simp [plane_Toward.j0] at h
  | k + 1 => by
    have ih0 := plane_Toward.mono_l k
    · intro y0 y1 y2 y3 y4 y5 y6
      unfold plane_Toward.j0
      repeat' first
      | (with_reducible exact ih0 _ _ _ _ _ _ _)
      | (with_reducible exact num_DivDown.mono _ _ _)
      | (with_reducible exact LeO.refl _)
      | (with_reducible exact LeO.none _)
      | (with_reducible refine LeO.ite ?_ ?_)
      | (with_reducible refine LeO.bind ?_ (fun _ => ?_))
      | exact ih0 _ _ _ _ _ _ _
      | exact num_DivDown.mono _ _ _
      | exact LeO.none _
      | refine LeO.ite ?_ ?_
      | refine LeO.bind ?_ (fun _ => ?_)
theorem plane_Toward.mono : ∀ a0 a1 a2 a3 a4 a5 k, LeO (plane_Toward.f k a0 a1 a2 a3 a4 a5) (plane_Toward.f (k + 1) a0 a1 a2 a3 a4 a5) := by
  intro a0 a1 a2 a3 a4 a5 k
  have ih0 := plane_Toward.mono_l k
  unfold plane_Toward.f
  repeat' first
      | (with_reducible exact ih0 _ _ _ _ _ _ _)
      | (with_reducible exact num_DivDown.mono _ _ _)
      | (with_reducible exact LeO.refl _)
      | (with_reducible exact LeO.none _)
      | (with_reducible refine LeO.ite ?_ ?_)
      | (with_reducible refine LeO.bind ?_ (fun _ => ?_))
      | exact ih0 _ _ _ _ _ _ _
      | exact num_DivDown.mono _ _ _
      | exact LeO.none _
      | refine LeO.ite ?_ ?_
      | refine LeO.bind ?_ (fun _ => ?_)
set_option maxHeartbeats 8000000 in
set_option maxRecDepth 100000 in
theorem plane_Toward.calls (k : Nat) (a0_0 : Int) (a0_1 : Int) (a1_0 : Int) (a1_1 : Int) (a2 : Int) (a3 : Int) (r1 : Int) (r2 : Int) (r3 : Int) (w : World) (h : plane_Toward.f k a0_0 a0_1 a1_0 a1_1 a2 a3 = some (r1, r2, r3)) :
    Calls Try.prog 110 #[.agg #[.int .i64 a0_0, .int .i64 a0_1], .agg #[.int .i64 a1_0, .int .i64 a1_1], .int .i64 a2, .int .i64 a3] w fun e w' => e = .returned (.tuple #[.agg #[.int .i64 r1, .int .i64 r2], .int .i64 r3]) ∧ Below w.heap.size w w' := by
 have hu36 := Try.underlying36
 have HB := Aside0.mk (Below.refl w.heap.size w)
 have H : (if a3 ≤ 0 then (some (0, 0, 10)) else (if a3 > 200000 then (plane_Toward.j0 k a2 a3 true a0_0 a0_1 a1_0 a1_1) else (if a2 < 0 then (plane_Toward.j0 k a2 a3 true a0_0 a0_1 a1_0 a1_1) else (if a2 > a3 then (plane_Toward.j0 k a2 a3 true a0_0 a0_1 a1_0 a1_1) else ((plane_Check.f a0_0 a0_1).bind fun t109 => (if t109 = 0 then ((plane_Check.f a1_0 a1_1).bind fun t110 => (plane_Toward.j0 k a2 a3 (t110 != 0) a0_0 a0_1 a1_0 a1_1)) else (plane_Toward.j0 k a2 a3 true a0_0 a0_1 a1_0 a1_1))))))) = some (r1, r2, r3) := h
 clear h
 refine Or.elim (Classical.em (a3 ≤ 0)) (fun c5 => ?p2_) (fun c5 => ?n2_)
 case' p2_ =>
  rw [if_pos c5] at H
  have c5b0 : decide (a3 ≤ 0) = true := decide_eq_true c5
  clear c5
  simp only [Option.some.injEq, Prod.mk.injEq] at H
  obtain ⟨rfl, rfl, rfl⟩ := H
  have hm1_0 := Aside0.mk trivial
 case' n2_ =>
  rw [if_neg c5] at H
  have c5b0 : decide (a3 ≤ 0) = false := decide_eq_false c5
  clear c5
  have HC12 := Aside0.mk H
  clear H
  have hm1_1 := Aside0.mk trivial
 all_goals
  go_enter Try.func110, Try.ntmps110
  first
   | clear hm1_0
     go_wp2_with (first | ((with_reducible refine gate_dst (N := 4) rfl ?_); refine box_event ?hg (N := 4) ?hd (cs := #[.int .i64 a0_0, .int .i64 a0_1]) (t := 36) ?hr ?_; (case hd => rfl); (case hg => rfl); (case hr => first | (go_simp; done) | (go_simp; rfl)); intro gb106 hg wxe4aa1 hbox hb; have n0_ := Aside0.mk (below_step (by repeat (first | (with_reducible first | exact HB.out | apply below_alloc | apply pw_below_drewN | apply below_drew1) | exact HB.out)) hb); have n1_ := Aside0.mk (hbox); have n2_ := Aside0.mk ((by rw [hg]; exact (below_size (by repeat (first | (with_reducible first | exact HB.out | apply below_alloc | apply pw_below_drewN | apply below_drew1) | exact HB.out))) : w.heap.size ≤ gb106)); have n3_ := Aside0.mk ((by rw [hg]; exact (below_size (by repeat (first | (with_reducible first | exact HB.out | apply below_alloc | apply pw_below_drewN | apply below_drew1) | exact HB.out))) : w.heap.size ≤ gb106)); clear HB; have HB := n0_; have BK106 := n1_; have GW106 := n2_; have GE106 := n3_; clear n0_ n1_ n2_ n3_; clear hb hbox hg) | ((with_reducible refine gate_dst (N := 5) rfl ?_); refine box_event ?hg (N := 5) ?hd (cs := #[.int .i64 a1_0, .int .i64 a1_1]) (t := 36) ?hr ?_; (case hd => rfl); (case hg => rfl); (case hr => first | (go_simp; done) | (go_simp; rfl)); intro gb107 hg wx99ce1 hbox hb; have n0_ := Aside0.mk (blk_below (g := gb106) (o := .cells #[.int .i64 a0_0, .int .i64 a0_1] 36 (0, 0)) (by (with_reducible repeat (first | refine blk_drewN ?_ _ | refine blk_drew ?_ | refine blk_alloc ?_ _)); exact BK106.out) hb); have n1_ := Aside0.mk (below_step (by repeat (first | (with_reducible first | exact HB.out | apply below_alloc | apply pw_below_drewN | apply below_drew1 | refine below_set ?_ GE106.out) | exact HB.out)) hb); have n2_ := Aside0.mk (hbox); have n3_ := Aside0.mk ((by rw [hg]; exact (below_size (by repeat (first | (with_reducible first | exact HB.out | apply below_alloc | apply pw_below_drewN | apply below_drew1 | refine below_set ?_ GE106.out) | exact HB.out))) : w.heap.size ≤ gb107)); have n4_ := Aside0.mk ((by rw [hg]; exact (below_size (by repeat (first | (with_reducible first | exact HB.out | apply below_alloc | apply pw_below_drewN | apply below_drew1 | refine below_set ?_ GE106.out) | exact HB.out))) : w.heap.size ≤ gb107)); have n5_ := Aside0.mk ((by rw [hg]; exact Nat.ne_of_lt (blk_lt (g := gb106) (o := .cells #[.int .i64 a0_0, .int .i64 a0_1] 36 (0, 0)) (by (with_reducible repeat (first | refine blk_drewN ?_ _ | refine blk_drew ?_ | refine blk_alloc ?_ _)); exact BK106.out)) : gb106 ≠ gb107)); have n6_ := Aside0.mk ((by rw [hg]; exact Nat.ne_of_gt (blk_lt (g := gb106) (o := .cells #[.int .i64 a0_0, .int .i64 a0_1] 36 (0, 0)) (by (with_reducible repeat (first | refine blk_drewN ?_ _ | refine blk_drew ?_ | refine blk_alloc ?_ _)); exact BK106.out)) : gb107 ≠ gb106)); clear BK106; clear HB; have BK106 := n0_; have HB := n1_; have BK107 := n2_; have GW107 := n3_; have GE107 := n4_; have NB106_107 := n5_; have NB107_106 := n6_; clear n0_ n1_ n2_ n3_ n4_ n5_ n6_; clear hb hbox hg) | ((with_reducible refine gate_dst (N := 8) rfl ?_); refine box_event ?hg (N := 8) ?hd (cs := #[.int .i64 0, .int .i64 0]) (t := 36) ?hr ?_; (case hd => rfl); (case hg => rfl); (case hr => first | (go_simp; done) | (go_simp; rfl)); intro gb108 hg wx7a101 hbox hb; have n0_ := Aside0.mk (blk_below (g := gb106) (o := .cells #[.int .i64 a0_0, .int .i64 a0_1] 36 (0, 0)) (by (with_reducible repeat (first | refine blk_drewN ?_ _ | refine blk_drew ?_ | refine blk_alloc ?_ _)); exact BK106.out) hb); have n1_ := Aside0.mk (blk_below (g := gb107) (o := .cells #[.int .i64 a1_0, .int .i64 a1_1] 36 (0, 0)) (by (with_reducible repeat (first | refine blk_drewN ?_ _ | refine blk_drew ?_ | refine blk_alloc ?_ _)); exact BK107.out) hb); have n2_ := Aside0.mk (below_step (by repeat (first | (with_reducible first | exact HB.out | apply below_alloc | apply pw_below_drewN | apply below_drew1 | refine below_set ?_ GE106.out | refine below_set ?_ GE107.out) | exact HB.out)) hb); have n3_ := Aside0.mk (hbox); have n4_ := Aside0.mk ((by rw [hg]; exact (below_size (by repeat (first | (with_reducible first | exact HB.out | apply below_alloc | apply pw_below_drewN | apply below_drew1 | refine below_set ?_ GE106.out | refine below_set ?_ GE107.out) | exact HB.out))) : w.heap.size ≤ gb108)); have n5_ := Aside0.mk ((by rw [hg]; exact (below_size (by repeat (first | (with_reducible first | exact HB.out | apply below_alloc | apply pw_below_drewN | apply below_drew1 | refine below_set ?_ GE106.out | refine below_set ?_ GE107.out) | exact HB.out))) : w.heap.size ≤ gb108)); have n6_ := Aside0.mk ((by rw [hg]; exact Nat.ne_of_lt (blk_lt (g := gb106) (o := .cells #[.int .i64 a0_0, .int .i64 a0_1] 36 (0, 0)) (by (with_reducible repeat (first | refine blk_drewN ?_ _ | refine blk_drew ?_ | refine blk_alloc ?_ _)); exact BK106.out)) : gb106 ≠ gb108)); have n7_ := Aside0.mk ((by rw [hg]; exact Nat.ne_of_gt (blk_lt (g := gb106) (o := .cells #[.int .i64 a0_0, .int .i64 a0_1] 36 (0, 0)) (by (with_reducible repeat (first | refine blk_drewN ?_ _ | refine blk_drew ?_ | refine blk_alloc ?_ _)); exact BK106.out)) : gb108 ≠ gb106)); have n8_ := Aside0.mk ((by rw [hg]; exact Nat.ne_of_lt (blk_lt (g := gb107) (o := .cells #[.int .i64 a1_0, .int .i64 a1_1] 36 (0, 0)) (by (with_reducible repeat (first | refine blk_drewN ?_ _ | refine blk_drew ?_ | refine blk_alloc ?_ _)); exact BK107.out)) : gb107 ≠ gb108)); have n9_ := Aside0.mk ((by rw [hg]; exact Nat.ne_of_gt (blk_lt (g := gb107) (o := .cells #[.int .i64 a1_0, .int .i64 a1_1] 36 (0, 0)) (by (with_reducible repeat (first | refine blk_drewN ?_ _ | refine blk_drew ?_ | refine blk_alloc ?_ _)); exact BK107.out)) : gb108 ≠ gb107)); clear BK106; clear BK107; clear HB; have BK106 := n0_; have BK107 := n1_; have HB := n2_; have BK108 := n3_; have GW108 := n4_; have GE108 := n5_; have NB106_108 := n6_; have NB108_106 := n7_; have NB107_108 := n8_; have NB108_107 := n9_; clear n0_ n1_ n2_ n3_ n4_ n5_ n6_ n7_ n8_ n9_; clear hb hbox hg; have hnbx7a101 := NB108_106.out; have hncx7a101 := NB106_108.out; have hnbx7a102 := NB108_107.out; have hncx7a102 := NB107_108.out; have hczx7a101 : wx7a101.cell? ⟨gb108, 0, none⟩ = some (.int .i64 0) := (blk_cell BK108.out 0).trans rfl; have hczx7a102 : wx7a101.cell? ⟨gb108, 1, none⟩ = some (.int .i64 0) := (blk_cell BK108.out 1).trans rfl; have hfzx7a101 := blk_frozen BK108.out 0; have hfzx7a102 := blk_frozen BK108.out 1))
     refine bodyPost_ret (results_ct rfl _ _ gb108 36 #[.int .i64 0, .int .i64 0] (0, 0) _ rfl (by (with_reducible repeat (first | refine blk_drewN ?_ _ | refine blk_drew ?_ | refine blk_alloc ?_ _)); refine blk_put (cs := #[.int .i64 0, .int .i64 0]) ?_ 1 _ rfl; (with_reducible repeat (first | refine blk_drewN ?_ _ | refine blk_drew ?_ | refine blk_alloc ?_ _)); refine blk_put (cs := #[.int .i64 0, .int .i64 0]) ?_ 0 _ rfl; (with_reducible repeat (first | refine blk_drewN ?_ _ | refine blk_drew ?_ | refine blk_alloc ?_ _)); exact BK108.out) Try.underlying36 rfl (by kernel_rfl)) rfl ?_
     exact ⟨by first | rfl | (simp [errW_none, errW_some] <;> rfl) | (simp [*, errW_none, errW_some] <;> rfl), by repeat (first | (with_reducible first | exact HB.out | apply below_alloc | apply pw_below_drewN | apply below_drew1 | refine below_set ?_ GE106.out | refine below_set ?_ GE107.out | refine below_set ?_ GE108.out) | exact HB.out)⟩
   | clear hm1_1
     go_upto_region 3 with (first | ((with_reducible refine gate_dst (N := 4) rfl ?_); refine box_event ?hg (N := 4) ?hd (cs := #[.int .i64 a0_0, .int .i64 a0_1]) (t := 36) ?hr ?_; (case hd => rfl); (case hg => rfl); (case hr => first | (go_simp; done) | (go_simp; rfl)); intro gb106 hg wxe4aa1 hbox hb; have n0_ := Aside0.mk (below_step (by repeat (first | (with_reducible first | exact HB.out | apply below_alloc | apply pw_below_drewN | apply below_drew1) | exact HB.out)) hb); have n1_ := Aside0.mk (hbox); have n2_ := Aside0.mk ((by rw [hg]; exact (below_size (by repeat (first | (with_reducible first | exact HB.out | apply below_alloc | apply pw_below_drewN | apply below_drew1) | exact HB.out))) : w.heap.size ≤ gb106)); have n3_ := Aside0.mk ((by rw [hg]; exact (below_size (by repeat (first | (with_reducible first | exact HB.out | apply below_alloc | apply pw_below_drewN | apply below_drew1) | exact HB.out))) : w.heap.size ≤ gb106)); clear HB; have HB := n0_; have BK106 := n1_; have GW106 := n2_; have GE106 := n3_; clear n0_ n1_ n2_ n3_; clear hb hbox hg) | ((with_reducible refine gate_dst (N := 5) rfl ?_); refine box_event ?hg (N := 5) ?hd (cs := #[.int .i64 a1_0, .int .i64 a1_1]) (t := 36) ?hr ?_; (case hd => rfl); (case hg => rfl); (case hr => first | (go_simp; done) | (go_simp; rfl)); intro gb107 hg wx99ce1 hbox hb; have n0_ := Aside0.mk (blk_below (g := gb106) (o := .cells #[.int .i64 a0_0, .int .i64 a0_1] 36 (0, 0)) (by (with_reducible repeat (first | refine blk_drewN ?_ _ | refine blk_drew ?_ | refine blk_alloc ?_ _)); exact BK106.out) hb); have n1_ := Aside0.mk (below_step (by repeat (first | (with_reducible first | exact HB.out | apply below_alloc | apply pw_below_drewN | apply below_drew1 | refine below_set ?_ GE106.out) | exact HB.out)) hb); have n2_ := Aside0.mk (hbox); have n3_ := Aside0.mk ((by rw [hg]; exact (below_size (by repeat (first | (with_reducible first | exact HB.out | apply below_alloc | apply pw_below_drewN | apply below_drew1 | refine below_set ?_ GE106.out) | exact HB.out))) : w.heap.size ≤ gb107)); have n4_ := Aside0.mk ((by rw [hg]; exact (below_size (by repeat (first | (with_reducible first | exact HB.out | apply below_alloc | apply pw_below_drewN | apply below_drew1 | refine below_set ?_ GE106.out) | exact HB.out))) : w.heap.size ≤ gb107)); have n5_ := Aside0.mk ((by rw [hg]; exact Nat.ne_of_lt (blk_lt (g := gb106) (o := .cells #[.int .i64 a0_0, .int .i64 a0_1] 36 (0, 0)) (by (with_reducible repeat (first | refine blk_drewN ?_ _ | refine blk_drew ?_ | refine blk_alloc ?_ _)); exact BK106.out)) : gb106 ≠ gb107)); have n6_ := Aside0.mk ((by rw [hg]; exact Nat.ne_of_gt (blk_lt (g := gb106) (o := .cells #[.int .i64 a0_0, .int .i64 a0_1] 36 (0, 0)) (by (with_reducible repeat (first | refine blk_drewN ?_ _ | refine blk_drew ?_ | refine blk_alloc ?_ _)); exact BK106.out)) : gb107 ≠ gb106)); clear BK106; clear HB; have BK106 := n0_; have HB := n1_; have BK107 := n2_; have GW107 := n3_; have GE107 := n4_; have NB106_107 := n5_; have NB107_106 := n6_; clear n0_ n1_ n2_ n3_ n4_ n5_ n6_; clear hb hbox hg) | ((with_reducible refine gate_dst (N := 8) rfl ?_); refine box_event ?hg (N := 8) ?hd (cs := #[.int .i64 0, .int .i64 0]) (t := 36) ?hr ?_; (case hd => rfl); (case hg => rfl); (case hr => first | (go_simp; done) | (go_simp; rfl)); intro gb108 hg wx95061 hbox hb; have n0_ := Aside0.mk (blk_below (g := gb106) (o := .cells #[.int .i64 a0_0, .int .i64 a0_1] 36 (0, 0)) (by (with_reducible repeat (first | refine blk_drewN ?_ _ | refine blk_drew ?_ | refine blk_alloc ?_ _)); exact BK106.out) hb); have n1_ := Aside0.mk (blk_below (g := gb107) (o := .cells #[.int .i64 a1_0, .int .i64 a1_1] 36 (0, 0)) (by (with_reducible repeat (first | refine blk_drewN ?_ _ | refine blk_drew ?_ | refine blk_alloc ?_ _)); exact BK107.out) hb); have n2_ := Aside0.mk (below_step (by repeat (first | (with_reducible first | exact HB.out | apply below_alloc | apply pw_below_drewN | apply below_drew1 | refine below_set ?_ GE106.out | refine below_set ?_ GE107.out) | exact HB.out)) hb); have n3_ := Aside0.mk (hbox); have n4_ := Aside0.mk ((by rw [hg]; exact (below_size (by repeat (first | (with_reducible first | exact HB.out | apply below_alloc | apply pw_below_drewN | apply below_drew1 | refine below_set ?_ GE106.out | refine below_set ?_ GE107.out) | exact HB.out))) : w.heap.size ≤ gb108)); have n5_ := Aside0.mk ((by rw [hg]; exact (below_size (by repeat (first | (with_reducible first | exact HB.out | apply below_alloc | apply pw_below_drewN | apply below_drew1 | refine below_set ?_ GE106.out | refine below_set ?_ GE107.out) | exact HB.out))) : w.heap.size ≤ gb108)); have n6_ := Aside0.mk ((by rw [hg]; exact Nat.ne_of_lt (blk_lt (g := gb106) (o := .cells #[.int .i64 a0_0, .int .i64 a0_1] 36 (0, 0)) (by (with_reducible repeat (first | refine blk_drewN ?_ _ | refine blk_drew ?_ | refine blk_alloc ?_ _)); exact BK106.out)) : gb106 ≠ gb108)); have n7_ := Aside0.mk ((by rw [hg]; exact Nat.ne_of_gt (blk_lt (g := gb106) (o := .cells #[.int .i64 a0_0, .int .i64 a0_1] 36 (0, 0)) (by (with_reducible repeat (first | refine blk_drewN ?_ _ | refine blk_drew ?_ | refine blk_alloc ?_ _)); exact BK106.out)) : gb108 ≠ gb106)); have n8_ := Aside0.mk ((by rw [hg]; exact Nat.ne_of_lt (blk_lt (g := gb107) (o := .cells #[.int .i64 a1_0, .int .i64 a1_1] 36 (0, 0)) (by (with_reducible repeat (first | refine blk_drewN ?_ _ | refine blk_drew ?_ | refine blk_alloc ?_ _)); exact BK107.out)) : gb107 ≠ gb108)); have n9_ := Aside0.mk ((by rw [hg]; exact Nat.ne_of_gt (blk_lt (g := gb107) (o := .cells #[.int .i64 a1_0, .int .i64 a1_1] 36 (0, 0)) (by (with_reducible repeat (first | refine blk_drewN ?_ _ | refine blk_drew ?_ | refine blk_alloc ?_ _)); exact BK107.out)) : gb108 ≠ gb107)); clear BK106; clear BK107; clear HB; have BK106 := n0_; have BK107 := n1_; have HB := n2_; have BK108 := n3_; have GW108 := n4_; have GE108 := n5_; have NB106_108 := n6_; have NB108_106 := n7_; have NB107_108 := n8_; have NB108_107 := n9_; clear n0_ n1_ n2_ n3_ n4_ n5_ n6_ n7_ n8_ n9_; clear hb hbox hg))
     (try simp only [Act.put, List.setIfInBounds_toArray, List.set_cons_zero, List.set_cons_succ])
     go_cut [18] (fun v18 wc => ∃ (kq : Nat) (x18_11 : Bool), v18 = .bool x18_11 ∧ Aside0 (plane_Toward.j0 kq a2 a3 x18_11 a0_0 a0_1 a1_0 a1_1 = some (r1, r2, r3)) ∧ Aside0 (kq ≤ k) ∧ Aside0 (wc.heap[gb106]? = some (.cells #[.int .i64 a0_0, .int .i64 a0_1] 36 (0, 0))) ∧ Aside0 (wc.heap[gb107]? = some (.cells #[.int .i64 a1_0, .int .i64 a1_1] 36 (0, 0))) ∧ Aside0 (wc.heap[gb108]? = some (.cells #[.int .i64 0, .int .i64 0] 36 (0, 0))) ∧ Aside0 (Below w.heap.size w wc))
     case first =>
      have H := HC12.out
      clear HC12
      refine Or.elim (Classical.em (a3 > 200000)) (fun c16 => ?p4_) (fun c16 => ?n4_)
      case' p4_ =>
       rw [if_pos c16] at H
       have c16b0 : decide (200000 < a3) = true := decide_eq_true c16
       clear c16
       (first | rw [c16b0] | (simp only [i64_w, i32_w]; rw [c16b0]) | skip)
       have hm3_0 := Aside0.mk trivial
      case' n4_ =>
       rw [if_neg c16] at H
       have c16b0 : decide (200000 < a3) = false := decide_eq_false c16
       clear c16
       (first | rw [c16b0] | (simp only [i64_w, i32_w]; rw [c16b0]) | skip)
       refine Or.elim (Classical.em (a2 < 0)) (fun c17 => ?p5_) (fun c17 => ?n5_)
       case' p5_ =>
        rw [if_pos c17] at H
        have c17b0 : decide (a2 < 0) = true := decide_eq_true c17
        clear c17
        have hm3_0 := Aside0.mk trivial
       case' n5_ =>
        rw [if_neg c17] at H
        have c17b0 : decide (a2 < 0) = false := decide_eq_false c17
        clear c17
        refine Or.elim (Classical.em (a2 > a3)) (fun c18 => ?p6_) (fun c18 => ?n6_)
        case' p6_ =>
         rw [if_pos c18] at H
         have c18b0 : decide (a3 < a2) = true := decide_eq_true c18
         clear c18
         have hm3_0 := Aside0.mk trivial
        case' n6_ =>
         rw [if_neg c18] at H
         have c18b0 : decide (a3 < a2) = false := decide_eq_false c18
         clear c18
         replace H := Option.bind_eq_some_iff.mp H
         obtain ⟨t109, A190, H⟩ := H
         replace H : (if t109 = 0 then ((plane_Check.f a1_0 a1_1).bind fun t110 => (plane_Toward.j0 k a2 a3 (t110 != 0) a0_0 a0_1 a1_0 a1_1)) else (plane_Toward.j0 k a2 a3 true a0_0 a0_1 a1_0 a1_1)) = some (r1, r2, r3) := H
         have A19 := Aside0.mk A190
         clear A190
         refine Or.elim (Classical.em (t109 = 0)) (fun c20 => ?p7_) (fun c20 => ?n7_)
         case' p7_ =>
          rw [if_pos c20] at H
          have c20b0 : (t109 == 0) = true := beq_iff_eq.mpr c20
          have c20b1 : (t109 != 0) = false := bne_eq_false_iff_eq.mpr c20
          clear c20
          replace H := Option.bind_eq_some_iff.mp H
          obtain ⟨t110, A210, H⟩ := H
          replace H : (plane_Toward.j0 k a2 a3 (t110 != 0) a0_0 a0_1 a1_0 a1_1) = some (r1, r2, r3) := H
          have A21 := Aside0.mk A210
          clear A210
          have hm3_1 := Aside0.mk trivial
         case' n7_ =>
          rw [if_neg c20] at H
          have c20b0 : (t109 == 0) = false := beq_eq_false_iff_ne.mpr c20
          have c20b1 : (t109 != 0) = true := bne_iff_ne.mpr c20
          have hm3_1 := Aside0.mk trivial
      all_goals
       have H' := Aside0.mk H
       clear H
       first
        | clear hm3_0
          go_wp2
          go_meet
          case rel => exact ⟨_, (true), (by first | rfl | (simp; done) | (simp [*]; done)), H', ⟨by first | omega | exact Nat.le_refl _⟩, ⟨by (with_reducible repeat (first | refine blk_drewN ?_ _ | refine blk_drew ?_ | refine blk_alloc ?_ _)); exact BK106.out⟩, ⟨by (with_reducible repeat (first | refine blk_drewN ?_ _ | refine blk_drew ?_ | refine blk_alloc ?_ _)); exact BK107.out⟩, ⟨by (with_reducible repeat (first | refine blk_drewN ?_ _ | refine blk_drew ?_ | refine blk_alloc ?_ _)); exact BK108.out⟩, ⟨by repeat (first | (with_reducible first | exact HB.out | apply below_alloc | apply pw_below_drewN | apply below_drew1 | refine below_set ?_ GE106.out | refine below_set ?_ GE107.out | refine below_set ?_ GE108.out) | exact HB.out)⟩⟩
        | clear hm3_1
          have hnbzb1 := NB106_107.out
          have hnczb1 := NB107_106.out
          have hnbzb2 := NB106_108.out
          have hnczb2 := NB108_106.out
          have hczzb1 : wx95061.cell? ⟨gb106, 0, none⟩ = some (.int .i64 a0_0) := (blk_cell BK106.out 0).trans rfl
          have hczzb2 : wx95061.cell? ⟨gb106, 1, none⟩ = some (.int .i64 a0_1) := (blk_cell BK106.out 1).trans rfl
          have hfzzb1 := blk_frozen BK106.out 0
          have hfzzb2 := blk_frozen BK106.out 1
          go_wp2_with (first | (go_at_call 57; (with_reducible refine (plane_Check.calls a1_0 a1_1 t110 _ A21.out).mono ?_); rintro e wx24cc1 ⟨rfl, hb⟩; have n0_ := Aside0.mk (blk_below (g := gb106) (o := .cells #[.int .i64 a0_0, .int .i64 a0_1] 36 (0, 0)) (by (with_reducible repeat (first | refine blk_drewN ?_ _ | refine blk_drew ?_ | refine blk_alloc ?_ _)); exact BK106.out) hb); have n1_ := Aside0.mk (blk_below (g := gb107) (o := .cells #[.int .i64 a1_0, .int .i64 a1_1] 36 (0, 0)) (by (with_reducible repeat (first | refine blk_drewN ?_ _ | refine blk_drew ?_ | refine blk_alloc ?_ _)); exact BK107.out) hb); have n2_ := Aside0.mk (blk_below (g := gb108) (o := .cells #[.int .i64 0, .int .i64 0] 36 (0, 0)) (by (with_reducible repeat (first | refine blk_drewN ?_ _ | refine blk_drew ?_ | refine blk_alloc ?_ _)); exact BK108.out) hb); have n3_ := Aside0.mk (below_step (by repeat (first | (with_reducible first | exact HB.out | apply below_alloc | apply pw_below_drewN | apply below_drew1 | refine below_set ?_ GE106.out | refine below_set ?_ GE107.out | refine below_set ?_ GE108.out) | exact HB.out)) hb); clear BK106; clear BK107; clear BK108; clear HB; have BK106 := n0_; have BK107 := n1_; have BK108 := n2_; have HB := n3_; clear n0_ n1_ n2_ n3_; (try clear hb); (try clear hb2); (try clear hk); (try clear hi)) | (go_at_call 57; (with_reducible refine (plane_Check.calls a0_0 a0_1 t109 _ A19.out).mono ?_); rintro e wx56aa1 ⟨rfl, hb⟩; have n0_ := Aside0.mk (blk_below (g := gb106) (o := .cells #[.int .i64 a0_0, .int .i64 a0_1] 36 (0, 0)) (by (with_reducible repeat (first | refine blk_drewN ?_ _ | refine blk_drew ?_ | refine blk_alloc ?_ _)); exact BK106.out) hb); have n1_ := Aside0.mk (blk_below (g := gb107) (o := .cells #[.int .i64 a1_0, .int .i64 a1_1] 36 (0, 0)) (by (with_reducible repeat (first | refine blk_drewN ?_ _ | refine blk_drew ?_ | refine blk_alloc ?_ _)); exact BK107.out) hb); have n2_ := Aside0.mk (blk_below (g := gb108) (o := .cells #[.int .i64 0, .int .i64 0] 36 (0, 0)) (by (with_reducible repeat (first | refine blk_drewN ?_ _ | refine blk_drew ?_ | refine blk_alloc ?_ _)); exact BK108.out) hb); have n3_ := Aside0.mk (below_step (by repeat (first | (with_reducible first | exact HB.out | apply below_alloc | apply pw_below_drewN | apply below_drew1 | refine below_set ?_ GE106.out | refine below_set ?_ GE107.out | refine below_set ?_ GE108.out) | exact HB.out)) hb); clear BK106; clear BK107; clear BK108; clear HB; have BK106 := n0_; have BK107 := n1_; have BK108 := n2_; have HB := n3_; clear n0_ n1_ n2_ n3_; (try clear hb); (try clear hb2); (try clear hk); (try clear hi); have hnby585f40 := NB107_108.out; have hncy585f41 := NB108_107.out; have hczy585f42 : wx56aa1.cell? ⟨gb107, 0, none⟩ = some (.int .i64 a1_0) := (blk_cell BK107.out 0).trans rfl; have hczy585f43 : wx56aa1.cell? ⟨gb107, 1, none⟩ = some (.int .i64 a1_1) := (blk_cell BK107.out 1).trans rfl; have hfzy585f44 := blk_frozen BK107.out 0; have hfzy585f45 := blk_frozen BK107.out 1))
          go_meet
          case rel => first | (exact ⟨_, ((t110 != 0)), (by first | rfl | (simp; done) | (simp [*]; done)), H', ⟨by first | omega | exact Nat.le_refl _⟩, ⟨by (with_reducible repeat (first | refine blk_drewN ?_ _ | refine blk_drew ?_ | refine blk_alloc ?_ _)); exact BK106.out⟩, ⟨by (with_reducible repeat (first | refine blk_drewN ?_ _ | refine blk_drew ?_ | refine blk_alloc ?_ _)); exact BK107.out⟩, ⟨by (with_reducible repeat (first | refine blk_drewN ?_ _ | refine blk_drew ?_ | refine blk_alloc ?_ _)); exact BK108.out⟩, ⟨by repeat (first | (with_reducible first | exact HB.out | apply below_alloc | apply pw_below_drewN | apply below_drew1 | refine below_set ?_ GE106.out | refine below_set ?_ GE107.out | refine below_set ?_ GE108.out) | exact HB.out)⟩⟩) | (exact ⟨_, (true), (by first | rfl | (simp; done) | (simp [*]; done)), H', ⟨by first | omega | exact Nat.le_refl _⟩, ⟨by (with_reducible repeat (first | refine blk_drewN ?_ _ | refine blk_drew ?_ | refine blk_alloc ?_ _)); exact BK106.out⟩, ⟨by (with_reducible repeat (first | refine blk_drewN ?_ _ | refine blk_drew ?_ | refine blk_alloc ?_ _)); exact BK107.out⟩, ⟨by (with_reducible repeat (first | refine blk_drewN ?_ _ | refine blk_drew ?_ | refine blk_alloc ?_ _)); exact BK108.out⟩, ⟨by repeat (first | (with_reducible first | exact HB.out | apply below_alloc | apply pw_below_drewN | apply below_drew1 | refine below_set ?_ GE106.out | refine below_set ?_ GE107.out | refine below_set ?_ GE108.out) | exact HB.out)⟩⟩)
     case rest =>
      clear HC12
      (try clear c1); (try clear c2); (try clear p2); (try clear c3); (try clear c5); (try clear c5b0); (try clear c9); (try clear c10); (try clear c11); (try clear c16); (try clear c16b0); (try clear c17); (try clear c17b0); (try clear c18); (try clear c18b0); (try clear c20); (try clear c20b0); (try clear c20b1); (try clear c22); (try clear c23); (try clear c26); (try clear c29); (try clear c30); (try clear hczza5); (try clear hczza6); (try clear hczza1); (try clear hczza2); (try clear hczx56aa1); (try clear hczx56aa2); (try clear hczza3); (try clear hczza4); (try clear hfzza5); (try clear hfzza6); (try clear hfzza1); (try clear hfzza2); (try clear hfzx56aa1); (try clear hfzx56aa2); (try clear hfzza3); (try clear hfzza4)
      obtain ⟨kq, x18_11, rfl, HA, HJ11, BK106, BK107, BK108, HB⟩ := hcut
      cases kq with
      | zero => exact absurd HA.out (by simp [plane_Toward.j0])
      | succ kj11 =>
       have H := HA.out
       clear HA
       simp only [plane_Toward.j0] at H
       by_cases c33 : x18_11 = true
       · subst c33
         have H1 : (some (0, 0, 4)) = some (r1, r2, r3) := by rw [if_pos rfl] at H; exact H
         clear H
         have H := H1
         clear H1
         simp only [Option.some.injEq, Prod.mk.injEq] at H
         obtain ⟨rfl, rfl, rfl⟩ := H
         have hnbza5 := NB108_106.out
         have hncza5 := NB106_108.out
         have hnbza6 := NB108_107.out
         have hncza6 := NB107_108.out
         have hczza7 : wc.cell? ⟨gb108, 0, none⟩ = some (.int .i64 0) := (blk_cell BK108.out 0).trans rfl
         have hczza8 : wc.cell? ⟨gb108, 1, none⟩ = some (.int .i64 0) := (blk_cell BK108.out 1).trans rfl
         have hfzza7 := blk_frozen BK108.out 0
         have hfzza8 := blk_frozen BK108.out 1
         go_wp2
         refine bodyPost_ret (results_ct rfl _ _ gb108 36 #[.int .i64 0, .int .i64 0] (0, 0) _ rfl (by (with_reducible repeat (first | refine blk_drewN ?_ _ | refine blk_drew ?_ | refine blk_alloc ?_ _)); refine blk_put (cs := #[.int .i64 0, .int .i64 0]) ?_ 1 _ rfl; (with_reducible repeat (first | refine blk_drewN ?_ _ | refine blk_drew ?_ | refine blk_alloc ?_ _)); refine blk_put (cs := #[.int .i64 0, .int .i64 0]) ?_ 0 _ rfl; (with_reducible repeat (first | refine blk_drewN ?_ _ | refine blk_drew ?_ | refine blk_alloc ?_ _)); exact BK108.out) Try.underlying36 rfl (by kernel_rfl)) rfl ?_
         exact ⟨by first | rfl | (simp [errW_none, errW_some] <;> rfl) | (simp [*, errW_none, errW_some] <;> rfl), by repeat (first | (with_reducible first | exact HB.out | apply below_alloc | apply pw_below_drewN | apply below_drew1 | refine below_set ?_ GE106.out | refine below_set ?_ GE107.out | refine below_set ?_ GE108.out) | exact HB.out)⟩
       · replace c33 := Bool.eq_false_iff.mpr c33
         subst c33
         have H1 : ((num_DivDown.f kj11 (wrap64 ((wrap64 (a1_0 - a0_0)) * a2)) a3).bind fun bt111 => ((num_DivDown.f kj11 (wrap64 ((wrap64 (a1_1 - a0_1)) * a2)) a3).bind fun bt113 => (some (wrap64 (a0_0 + bt111.1), wrap64 (a0_1 + bt113.1), 0)))) = some (r1, r2, r3) := by rw [if_neg (show ¬ (false = true) by decide)] at H; exact H
         clear H
         have H := H1
         clear H1
         replace H := Option.bind_eq_some_iff.mp H
         obtain ⟨⟨t111, t112⟩, A370, H⟩ := H
         replace H : ((num_DivDown.f kj11 (wrap64 ((wrap64 (a1_1 - a0_1)) * a2)) a3).bind fun bt113 => (some (wrap64 (a0_0 + t111), wrap64 (a0_1 + bt113.1), 0))) = some (r1, r2, r3) := H
         have A37 := Aside0.mk A370
         clear A370
         replace H := Option.bind_eq_some_iff.mp H
         obtain ⟨⟨t113, t114⟩, A380, H⟩ := H
         replace H : (some (wrap64 (a0_0 + t111), wrap64 (a0_1 + t113), 0)) = some (r1, r2, r3) := H
         have A38 := Aside0.mk A380
         clear A380
         simp only [Option.some.injEq, Prod.mk.injEq] at H
         obtain ⟨rfl, rfl, rfl⟩ := H
         have hnbza7 := NB107_106.out
         have hncza7 := NB106_107.out
         have hnbza8 := NB107_108.out
         have hncza8 := NB108_107.out
         have hczza9 : wc.cell? ⟨gb107, 0, none⟩ = some (.int .i64 a1_0) := (blk_cell BK107.out 0).trans rfl
         have hczza10 : wc.cell? ⟨gb107, 1, none⟩ = some (.int .i64 a1_1) := (blk_cell BK107.out 1).trans rfl
         have hfzza9 := blk_frozen BK107.out 0
         have hfzza10 := blk_frozen BK107.out 1
         have hnbza9 := NB106_108.out
         have hncza9 := NB108_106.out
         have hczza11 : wc.cell? ⟨gb106, 0, none⟩ = some (.int .i64 a0_0) := (blk_cell BK106.out 0).trans rfl
         have hczza12 : wc.cell? ⟨gb106, 1, none⟩ = some (.int .i64 a0_1) := (blk_cell BK106.out 1).trans rfl
         have hfzza11 := blk_frozen BK106.out 0
         have hfzza12 := blk_frozen BK106.out 1
         go_wp2_with (first | ((with_reducible refine gate_callee (f := 111) rfl ?_); refine goesL_ (some 50) rfl rfl Try.func111 (by kernel_rfl) rfl #[.int .i64 (wrap64 ((wrap64 (a1_0 - a0_0)) * a2)), .int .i64 a3] rfl (by (try simp only [List.map_toArray, List.map_cons, List.map_nil]); first | done | rfl | (simp only [List.length_drop, List.length_take]; rfl)) ?_; (with_reducible refine (num_DivDown.calls kj11 (wrap64 ((wrap64 (a1_0 - a0_0)) * a2)) a3 t111 t112 _ A37.out).mono ?_); rintro e wxbac21 ⟨rfl, hb⟩; refine ⟨_, rfl, ?_⟩; have n0_ := Aside0.mk (blk_below (g := gb106) (o := .cells #[.int .i64 a0_0, .int .i64 a0_1] 36 (0, 0)) (by (with_reducible repeat (first | refine blk_drewN ?_ _ | refine blk_drew ?_ | refine blk_alloc ?_ _)); exact BK106.out) hb); have n1_ := Aside0.mk (blk_below (g := gb107) (o := .cells #[.int .i64 a1_0, .int .i64 a1_1] 36 (0, 0)) (by (with_reducible repeat (first | refine blk_drewN ?_ _ | refine blk_drew ?_ | refine blk_alloc ?_ _)); exact BK107.out) hb); have n2_ := Aside0.mk (blk_below (g := gb108) (o := .cells #[.int .i64 0, .int .i64 0] 36 (0, 0)) (by (with_reducible repeat (first | refine blk_drewN ?_ _ | refine blk_drew ?_ | refine blk_alloc ?_ _)); exact BK108.out) hb); have n3_ := Aside0.mk (below_step (by repeat (first | (with_reducible first | exact HB.out | apply below_alloc | apply pw_below_drewN | apply below_drew1 | refine below_set ?_ GE106.out | refine below_set ?_ GE107.out | refine below_set ?_ GE108.out) | exact HB.out)) hb); clear BK106; clear BK107; clear BK108; clear HB; have BK106 := n0_; have BK107 := n1_; have BK108 := n2_; have HB := n3_; clear n0_ n1_ n2_ n3_; (try clear hb); (try clear hb2); (try clear hk); (try clear hi); have hczxbac21 : wxbac21.cell? ⟨gb107, 0, none⟩ = some (.int .i64 a1_0) := (blk_cell BK107.out 0).trans rfl; have hczxbac22 : wxbac21.cell? ⟨gb107, 1, none⟩ = some (.int .i64 a1_1) := (blk_cell BK107.out 1).trans rfl; have hfzxbac21 := blk_frozen BK107.out 0; have hfzxbac22 := blk_frozen BK107.out 1; have hczxbac23 : wxbac21.cell? ⟨gb106, 0, none⟩ = some (.int .i64 a0_0) := (blk_cell BK106.out 0).trans rfl; have hczxbac24 : wxbac21.cell? ⟨gb106, 1, none⟩ = some (.int .i64 a0_1) := (blk_cell BK106.out 1).trans rfl; have hfzxbac23 := blk_frozen BK106.out 0; have hfzxbac24 := blk_frozen BK106.out 1) | ((with_reducible refine gate_callee (f := 111) rfl ?_); refine goesL_ (some 62) rfl rfl Try.func111 (by kernel_rfl) rfl #[.int .i64 (wrap64 ((wrap64 (a1_1 - a0_1)) * a2)), .int .i64 a3] rfl (by (try simp only [List.map_toArray, List.map_cons, List.map_nil]); first | done | rfl | (simp only [List.length_drop, List.length_take]; rfl)) ?_; (with_reducible refine (num_DivDown.calls kj11 (wrap64 ((wrap64 (a1_1 - a0_1)) * a2)) a3 t113 t114 _ A38.out).mono ?_); rintro e wx473b1 ⟨rfl, hb⟩; refine ⟨_, rfl, ?_⟩; have n0_ := Aside0.mk (blk_below (g := gb106) (o := .cells #[.int .i64 a0_0, .int .i64 a0_1] 36 (0, 0)) (by (with_reducible repeat (first | refine blk_drewN ?_ _ | refine blk_drew ?_ | refine blk_alloc ?_ _)); exact BK106.out) hb); have n1_ := Aside0.mk (blk_below (g := gb107) (o := .cells #[.int .i64 a1_0, .int .i64 a1_1] 36 (0, 0)) (by (with_reducible repeat (first | refine blk_drewN ?_ _ | refine blk_drew ?_ | refine blk_alloc ?_ _)); exact BK107.out) hb); have n2_ := Aside0.mk (blk_below (g := gb108) (o := .cells #[.int .i64 0, .int .i64 0] 36 (0, 0)) (by (with_reducible repeat (first | refine blk_drewN ?_ _ | refine blk_drew ?_ | refine blk_alloc ?_ _)); exact BK108.out) hb); have n3_ := Aside0.mk (below_step (by repeat (first | (with_reducible first | exact HB.out | apply below_alloc | apply pw_below_drewN | apply below_drew1 | refine below_set ?_ GE106.out | refine below_set ?_ GE107.out | refine below_set ?_ GE108.out) | exact HB.out)) hb); clear BK106; clear BK107; clear BK108; clear HB; have BK106 := n0_; have BK107 := n1_; have BK108 := n2_; have HB := n3_; clear n0_ n1_ n2_ n3_; (try clear hb); (try clear hb2); (try clear hk); (try clear hi); have hczx473b1 : wx473b1.cell? ⟨gb106, 0, none⟩ = some (.int .i64 a0_0) := (blk_cell BK106.out 0).trans rfl; have hczx473b2 : wx473b1.cell? ⟨gb106, 1, none⟩ = some (.int .i64 a0_1) := (blk_cell BK106.out 1).trans rfl; have hfzx473b1 := blk_frozen BK106.out 0; have hfzx473b2 := blk_frozen BK106.out 1; have hczx473b3 : wx473b1.cell? ⟨gb108, 0, none⟩ = some (.int .i64 0) := (blk_cell BK108.out 0).trans rfl; have hczx473b4 : wx473b1.cell? ⟨gb108, 1, none⟩ = some (.int .i64 0) := (blk_cell BK108.out 1).trans rfl; have hfzx473b3 := blk_frozen BK108.out 0; have hfzx473b4 := blk_frozen BK108.out 1))
         refine bodyPost_ret (results_ct rfl _ _ gb108 36 #[.int .i64 (wrap64 (a0_0 + t111)), .int .i64 (wrap64 (a0_1 + t113))] (0, 0) _ rfl (by (with_reducible repeat (first | refine blk_drewN ?_ _ | refine blk_drew ?_ | refine blk_alloc ?_ _)); refine blk_put (cs := #[.int .i64 (wrap64 (a0_0 + t111)), .int .i64 0]) ?_ 1 _ rfl; (with_reducible repeat (first | refine blk_drewN ?_ _ | refine blk_drew ?_ | refine blk_alloc ?_ _)); refine blk_put (cs := #[.int .i64 0, .int .i64 0]) ?_ 0 _ rfl; (with_reducible repeat (first | refine blk_drewN ?_ _ | refine blk_drew ?_ | refine blk_alloc ?_ _)); exact BK108.out) Try.underlying36 rfl (by kernel_rfl)) rfl ?_
         exact ⟨by first | rfl | (simp [errW_none, errW_some] <;> rfl) | (simp [*, errW_none, errW_some] <;> rfl), by repeat (first | (with_reducible first | exact HB.out | apply below_alloc | apply pw_below_drewN | apply below_drew1 | refine below_set ?_ GE106.out | refine below_set ?_ GE107.out | refine below_set ?_ GE108.out) | exact HB.out)⟩

end Go.Proofs.Ytbpbpojnfhhbjaa.PFlyClosed
