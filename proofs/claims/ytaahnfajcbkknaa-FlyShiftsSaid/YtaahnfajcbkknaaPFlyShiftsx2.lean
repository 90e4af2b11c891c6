/- Made by a program of this session (wip/tools/myprint.py, over the kit's printer): that the Go functions answer as the Lean functions printed beside them. -/
import Derived.Test.YtaahnfajcbkknaaPFlyShiftsx0
namespace Go.Proofs.Ytaahnfajcbkknaa.PFlyShifts
open Go.RowKit Go.Proofs.YtaahnfajcbkknaaW.PrintWords Go.Proofs.YtaahnfajcbkknaaW.PrintLast Go.Proofs.YtaahnfajcbkknaaW.PrintMore
attribute [local go_sem] max2_int min2_int max_two min_two max_three min_three max_four min_four   -- for this text's walks alone
set_option linter.unusedVariables false
set_option linter.unusedSimpArgs false

/-! ### plane_Check: function 56 -/
def plane_Check.f (a0_0 : Int) (a0_1 : Int) : Option (Int) := if a0_0 < (-1000000) then (some 4) else (if a0_0 > 1000000 then (some 4) else (if a0_1 < (-1000000) then (some 4) else (if a0_1 > 1000000 then (some 4) else (some 0))))
set_option maxHeartbeats 8000000 in
set_option maxRecDepth 100000 in
theorem plane_Check.calls (a0_0 : Int) (a0_1 : Int) (r : Int) (w : World) (h : plane_Check.f a0_0 a0_1 = some r) :
    Calls Try.prog 56 #[.agg #[.int .i64 a0_0, .int .i64 a0_1]] w fun e w' => e = .returned (.int .i64 r) ∧ Below w.heap.size w w' := by
 have hu37 := Try.underlying37
 have HB := Aside0.mk (Below.refl w.heap.size w)
 have H : (if a0_0 < (-1000000) then (some 4) else (if a0_0 > 1000000 then (some 4) else (if a0_1 < (-1000000) then (some 4) else (if a0_1 > 1000000 then (some 4) else (some 0))))) = some r := h
 clear h
 by_cases c2 : a0_0 < (-1000000)
 · rw [if_pos c2] at H
   have c2b0 : decide (a0_0 < (-1000000)) = true := decide_eq_true c2
   clear c2
   obtain rfl := Option.some.inj H
   go_enter Try.func56, Try.ntmps56
   go_wp2_with (first | ((with_reducible refine gate_dst (N := 1) rfl ?_); refine box_event ?hg (N := 1) ?hd (cs := #[.int .i64 a0_0, .int .i64 a0_1]) (t := 37) ?hr ?_; (case hd => rfl); (case hg => rfl); (case hr => first | (go_simp; done) | (go_simp; rfl)); intro gb101 hg w3 hbox hb; have n0_ := Aside0.mk (below_step (by repeat (first | (with_reducible first | exact HB.out | apply below_alloc | apply pw_below_drewN | apply below_drew1) | exact HB.out)) hb); have n1_ := Aside0.mk (hbox); have n2_ := Aside0.mk ((by rw [hg]; exact (below_size (by repeat (first | (with_reducible first | exact HB.out | apply below_alloc | apply pw_below_drewN | apply below_drew1) | exact HB.out))) : w.heap.size ≤ gb101)); have n3_ := Aside0.mk ((by rw [hg]; exact (below_size (by repeat (first | (with_reducible first | exact HB.out | apply below_alloc | apply pw_below_drewN | apply below_drew1) | exact HB.out))) : w.heap.size ≤ gb101)); clear HB; have HB := n0_; have BK101 := n1_; have GW101 := n2_; have GE101 := n3_; clear n0_ n1_ n2_ n3_; clear hb hbox hg; have hcz4_0 : w3.cell? ⟨gb101, 0, none⟩ = some (.int .i64 a0_0) := (blk_cell BK101.out 0).trans rfl; have hcz4_1 : w3.cell? ⟨gb101, 1, none⟩ = some (.int .i64 a0_1) := (blk_cell BK101.out 1).trans rfl; have hfz4_0 := blk_frozen BK101.out 0; have hfz4_1 := blk_frozen BK101.out 1))
   go_ret
   exact ⟨by first | rfl | (simp [errW_none, errW_some] <;> rfl) | (simp [*, errW_none, errW_some] <;> rfl), by repeat (first | (with_reducible first | exact HB.out | apply below_alloc | apply pw_below_drewN | apply below_drew1 | refine below_set ?_ GE101.out) | exact HB.out)⟩
 · rw [if_neg c2] at H
   have c2b0 : decide (a0_0 < (-1000000)) = false := decide_eq_false c2
   clear c2
   by_cases c5 : a0_0 > 1000000
   · rw [if_pos c5] at H
     have c5b0 : decide (1000000 < a0_0) = true := decide_eq_true c5
     clear c5
     obtain rfl := Option.some.inj H
     go_enter Try.func56, Try.ntmps56
     go_wp2_with (first | ((with_reducible refine gate_dst (N := 1) rfl ?_); refine box_event ?hg (N := 1) ?hd (cs := #[.int .i64 a0_0, .int .i64 a0_1]) (t := 37) ?hr ?_; (case hd => rfl); (case hg => rfl); (case hr => first | (go_simp; done) | (go_simp; rfl)); intro gb101 hg w6 hbox hb; have n0_ := Aside0.mk (below_step (by repeat (first | (with_reducible first | exact HB.out | apply below_alloc | apply pw_below_drewN | apply below_drew1) | exact HB.out)) hb); have n1_ := Aside0.mk (hbox); have n2_ := Aside0.mk ((by rw [hg]; exact (below_size (by repeat (first | (with_reducible first | exact HB.out | apply below_alloc | apply pw_below_drewN | apply below_drew1) | exact HB.out))) : w.heap.size ≤ gb101)); have n3_ := Aside0.mk ((by rw [hg]; exact (below_size (by repeat (first | (with_reducible first | exact HB.out | apply below_alloc | apply pw_below_drewN | apply below_drew1) | exact HB.out))) : w.heap.size ≤ gb101)); clear HB; have HB := n0_; have BK101 := n1_; have GW101 := n2_; have GE101 := n3_; clear n0_ n1_ n2_ n3_; clear hb hbox hg; have hcz7_0 : w6.cell? ⟨gb101, 0, none⟩ = some (.int .i64 a0_0) := (blk_cell BK101.out 0).trans rfl; have hcz7_1 : w6.cell? ⟨gb101, 1, none⟩ = some (.int .i64 a0_1) := (blk_cell BK101.out 1).trans rfl; have hfz7_0 := blk_frozen BK101.out 0; have hfz7_1 := blk_frozen BK101.out 1))
     go_ret
     exact ⟨by first | rfl | (simp [errW_none, errW_some] <;> rfl) | (simp [*, errW_none, errW_some] <;> rfl), by repeat (first | (with_reducible first | exact HB.out | apply below_alloc | apply pw_below_drewN | apply below_drew1 | refine below_set ?_ GE101.out) | exact HB.out)⟩
   · rw [if_neg c5] at H
     have c5b0 : decide (1000000 < a0_0) = false := decide_eq_false c5
     clear c5
     by_cases c8 : a0_1 < (-1000000)
     · rw [if_pos c8] at H
       have c8b0 : decide (a0_1 < (-1000000)) = true := decide_eq_true c8
       clear c8
       obtain rfl := Option.some.inj H
       go_enter Try.func56, Try.ntmps56
       go_wp2_with (first | ((with_reducible refine gate_dst (N := 1) rfl ?_); refine box_event ?hg (N := 1) ?hd (cs := #[.int .i64 a0_0, .int .i64 a0_1]) (t := 37) ?hr ?_; (case hd => rfl); (case hg => rfl); (case hr => first | (go_simp; done) | (go_simp; rfl)); intro gb101 hg w9 hbox hb; have n0_ := Aside0.mk (below_step (by repeat (first | (with_reducible first | exact HB.out | apply below_alloc | apply pw_below_drewN | apply below_drew1) | exact HB.out)) hb); have n1_ := Aside0.mk (hbox); have n2_ := Aside0.mk ((by rw [hg]; exact (below_size (by repeat (first | (with_reducible first | exact HB.out | apply below_alloc | apply pw_below_drewN | apply below_drew1) | exact HB.out))) : w.heap.size ≤ gb101)); have n3_ := Aside0.mk ((by rw [hg]; exact (below_size (by repeat (first | (with_reducible first | exact HB.out | apply below_alloc | apply pw_below_drewN | apply below_drew1) | exact HB.out))) : w.heap.size ≤ gb101)); clear HB; have HB := n0_; have BK101 := n1_; have GW101 := n2_; have GE101 := n3_; clear n0_ n1_ n2_ n3_; clear hb hbox hg; have hcz10_0 : w9.cell? ⟨gb101, 0, none⟩ = some (.int .i64 a0_0) := (blk_cell BK101.out 0).trans rfl; have hcz10_1 : w9.cell? ⟨gb101, 1, none⟩ = some (.int .i64 a0_1) := (blk_cell BK101.out 1).trans rfl; have hfz10_0 := blk_frozen BK101.out 0; have hfz10_1 := blk_frozen BK101.out 1))
       go_ret
       exact ⟨by first | rfl | (simp [errW_none, errW_some] <;> rfl) | (simp [*, errW_none, errW_some] <;> rfl), by repeat (first | (with_reducible first | exact HB.out | apply below_alloc | apply pw_below_drewN | apply below_drew1 | refine below_set ?_ GE101.out) | exact HB.out)⟩
     · rw [if_neg c8] at H
       have c8b0 : decide (a0_1 < (-1000000)) = false := decide_eq_false c8
       clear c8
       by_cases c11 : a0_1 > 1000000
       · rw [if_pos c11] at H
         have c11b0 : decide (1000000 < a0_1) = true := decide_eq_true c11
         clear c11
         obtain rfl := Option.some.inj H
         go_enter Try.func56, Try.ntmps56
         go_wp2_with (first | ((with_reducible refine gate_dst (N := 1) rfl ?_); refine box_event ?hg (N := 1) ?hd (cs := #[.int .i64 a0_0, .int .i64 a0_1]) (t := 37) ?hr ?_; (case hd => rfl); (case hg => rfl); (case hr => first | (go_simp; done) | (go_simp; rfl)); intro gb101 hg w12 hbox hb; have n0_ := Aside0.mk (below_step (by repeat (first | (with_reducible first | exact HB.out | apply below_alloc | apply pw_below_drewN | apply below_drew1) | exact HB.out)) hb); have n1_ := Aside0.mk (hbox); have n2_ := Aside0.mk ((by rw [hg]; exact (below_size (by repeat (first | (with_reducible first | exact HB.out | apply below_alloc | apply pw_below_drewN | apply below_drew1) | exact HB.out))) : w.heap.size ≤ gb101)); have n3_ := Aside0.mk ((by rw [hg]; exact (below_size (by repeat (first | (with_reducible first | exact HB.out | apply below_alloc | apply pw_below_drewN | apply below_drew1) | exact HB.out))) : w.heap.size ≤ gb101)); clear HB; have HB := n0_; have BK101 := n1_; have GW101 := n2_; have GE101 := n3_; clear n0_ n1_ n2_ n3_; clear hb hbox hg; have hcz13_0 : w12.cell? ⟨gb101, 0, none⟩ = some (.int .i64 a0_0) := (blk_cell BK101.out 0).trans rfl; have hcz13_1 : w12.cell? ⟨gb101, 1, none⟩ = some (.int .i64 a0_1) := (blk_cell BK101.out 1).trans rfl; have hfz13_0 := blk_frozen BK101.out 0; have hfz13_1 := blk_frozen BK101.out 1))
         go_ret
         exact ⟨by first | rfl | (simp [errW_none, errW_some] <;> rfl) | (simp [*, errW_none, errW_some] <;> rfl), by repeat (first | (with_reducible first | exact HB.out | apply below_alloc | apply pw_below_drewN | apply below_drew1 | refine below_set ?_ GE101.out) | exact HB.out)⟩
       · rw [if_neg c11] at H
         have c11b0 : decide (1000000 < a0_1) = false := decide_eq_false c11
         clear c11
         obtain rfl := Option.some.inj H
         go_enter Try.func56, Try.ntmps56
         go_wp2_with (first | ((with_reducible refine gate_dst (N := 1) rfl ?_); refine box_event ?hg (N := 1) ?hd (cs := #[.int .i64 a0_0, .int .i64 a0_1]) (t := 37) ?hr ?_; (case hd => rfl); (case hg => rfl); (case hr => first | (go_simp; done) | (go_simp; rfl)); intro gb101 hg w14 hbox hb; have n0_ := Aside0.mk (below_step (by repeat (first | (with_reducible first | exact HB.out | apply below_alloc | apply pw_below_drewN | apply below_drew1) | exact HB.out)) hb); have n1_ := Aside0.mk (hbox); have n2_ := Aside0.mk ((by rw [hg]; exact (below_size (by repeat (first | (with_reducible first | exact HB.out | apply below_alloc | apply pw_below_drewN | apply below_drew1) | exact HB.out))) : w.heap.size ≤ gb101)); have n3_ := Aside0.mk ((by rw [hg]; exact (below_size (by repeat (first | (with_reducible first | exact HB.out | apply below_alloc | apply pw_below_drewN | apply below_drew1) | exact HB.out))) : w.heap.size ≤ gb101)); clear HB; have HB := n0_; have BK101 := n1_; have GW101 := n2_; have GE101 := n3_; clear n0_ n1_ n2_ n3_; clear hb hbox hg; have hcz15_0 : w14.cell? ⟨gb101, 0, none⟩ = some (.int .i64 a0_0) := (blk_cell BK101.out 0).trans rfl; have hcz15_1 : w14.cell? ⟨gb101, 1, none⟩ = some (.int .i64 a0_1) := (blk_cell BK101.out 1).trans rfl; have hfz15_0 := blk_frozen BK101.out 0; have hfz15_1 := blk_frozen BK101.out 1))
         go_ret
         exact ⟨by first | rfl | (simp [errW_none, errW_some] <;> rfl) | (simp [*, errW_none, errW_some] <;> rfl), by repeat (first | (with_reducible first | exact HB.out | apply below_alloc | apply pw_below_drewN | apply below_drew1 | refine below_set ?_ GE101.out) | exact HB.out)⟩

/-! ### fly_Check: function 54 -/
mutual
def fly_Check.l0 : Nat → List (S49) → List (S49) → Int → Int → Option (Int)
  | 0, _, _, _, _ => none
  | k + 1, x0, x14, x15, x16 => if x16 < x15 then (if 0 ≤ x16 then (if x16 < (x14.length : Int) then (if ((rd_T49 x14 x16).f0) < 0 then (fly_Check.j1 k x0 x14 x15 x16 true ((rd_T49 x14 x16).f0) ((rd_T49 x14 x16).f1.f0) ((rd_T49 x14 x16).f1.f1) ((rd_T49 x14 x16).f2)) else (if ((rd_T49 x14 x16).f0) > 200000 then (fly_Check.j1 k x0 x14 x15 x16 true ((rd_T49 x14 x16).f0) ((rd_T49 x14 x16).f1.f0) ((rd_T49 x14 x16).f1.f1) ((rd_T49 x14 x16).f2)) else (if x16 > 0 then (if 0 ≤ (wrap64 (x16 - 1)) then (if (wrap64 (x16 - 1)) < (x0.length : Int) then (fly_Check.j1 k x0 x14 x15 x16 (decide (((rd_T49 x14 x16).f0) ≤ ((rd_T49 x0 (wrap64 (x16 - 1))).f0))) ((rd_T49 x14 x16).f0) ((rd_T49 x14 x16).f1.f0) ((rd_T49 x14 x16).f1.f1) ((rd_T49 x14 x16).f2)) else (none)) else (none)) else (fly_Check.j1 k x0 x14 x15 x16 false ((rd_T49 x14 x16).f0) ((rd_T49 x14 x16).f1.f0) ((rd_T49 x14 x16).f1.f1) ((rd_T49 x14 x16).f2))))) else (none)) else (none)) else (some 0)
def fly_Check.j1 : Nat → List (S49) → List (S49) → Int → Int → Bool → Int → Int → Int → Int → Option (Int)
  | 0, _, _, _, _, _, _, _, _, _ => none
  | k + 1, x0, x14, x15, x16, x43, x104000, x104001, x104002, x104003 => if x43 = true then (some 12) else ((plane_Check.f x104001 x104002).bind fun t105 => (if t105 = 0 then (if x104003 < 0 then (some 4) else (if x104003 > 60000 then (some 4) else (fly_Check.l0 k x0 x14 x15 (wrap64 (x16 + 1))))) else (some t105)))
end
def fly_Check.f (k : Nat) (l0 : List (S49)) : Option (Int) := if (l0.length : Int) > 64 then (some 2) else (if (l0.length : Int) = 0 then (some 3) else (fly_Check.l0 k l0 l0 (l0.length : Int) 0))
theorem fly_Check.mono_l : ∀ k, (∀ y0 y1 y2 y3, LeO (fly_Check.l0 k y0 y1 y2 y3) (fly_Check.l0 (k + 1) y0 y1 y2 y3)) ∧ (∀ y0 y1 y2 y3 y4 y5 y6 y7 y8, LeO (fly_Check.j1 k y0 y1 y2 y3 y4 y5 y6 y7 y8) (fly_Check.j1 (k + 1) y0 y1 y2 y3 y4 y5 y6 y7 y8))
  | 0 => ⟨fun _ _ _ _ r h => by simp [fly_Check.l0] at h, fun _ _ _ _ _ _ _ _ _ r h => by simp [fly_Check.j1] at h⟩
  | k + 1 => by
    obtain ⟨ih0, ih1⟩ := fly_Check.mono_l k
    refine ⟨?_, ?_⟩
    · intro y0 y1 y2 y3
      unfold fly_Check.l0
      repeat' first
      | (with_reducible exact ih0 _ _ _ _)
      | (with_reducible exact ih1 _ _ _ _ _ _ _ _ _)
      | (with_reducible exact LeO.refl _)
      | (with_reducible exact LeO.none _)
      | (with_reducible refine LeO.ite ?_ ?_)
      | (with_reducible refine LeO.bind ?_ (fun _ => ?_))
      | exact ih0 _ _ _ _
      | exact ih1 _ _ _ _ _ _ _ _ _
      | exact LeO.none _
      | refine LeO.ite ?_ ?_
      | refine LeO.bind ?_ (fun _ => ?_)
    · intro y0 y1 y2 y3 y4 y5 y6 y7 y8
      unfold fly_Check.j1
      repeat' first
      | (with_reducible exact ih0 _ _ _ _)
      | (with_reducible exact ih1 _ _ _ _ _ _ _ _ _)
      | (with_reducible exact LeO.refl _)
      | (with_reducible exact LeO.none _)
      | (with_reducible refine LeO.ite ?_ ?_)
      | (with_reducible refine LeO.bind ?_ (fun _ => ?_))
      | exact ih0 _ _ _ _
      | exact ih1 _ _ _ _ _ _ _ _ _
      | exact LeO.none _
      | refine LeO.ite ?_ ?_
      | refine LeO.bind ?_ (fun _ => ?_)
theorem fly_Check.mono : ∀ a0 k, LeO (fly_Check.f k a0) (fly_Check.f (k + 1) a0) := by
  intro a0 k
  obtain ⟨ih0, ih1⟩ := fly_Check.mono_l k
  unfold fly_Check.f
  repeat' first
      | (with_reducible exact ih0 _ _ _ _)
      | (with_reducible exact ih1 _ _ _ _ _ _ _ _ _)
      | (with_reducible exact LeO.refl _)
      | (with_reducible exact LeO.none _)
      | (with_reducible refine LeO.ite ?_ ?_)
      | (with_reducible refine LeO.bind ?_ (fun _ => ?_))
      | exact ih0 _ _ _ _
      | exact ih1 _ _ _ _ _ _ _ _ _
      | exact LeO.none _
      | refine LeO.ite ?_ ?_
      | refine LeO.bind ?_ (fun _ => ?_)
set_option maxHeartbeats 8000000 in
set_option maxRecDepth 100000 in
theorem fly_Check.calls (k : Nat) (A0 : Option Addr) (c0 : Nat) (l0 : List (S49)) (r : Int) (w : World) (hr0 : Kd.C k49 w A0 l0.length l0) (hc0 : l0.length ≤ c0) (h : fly_Check.f k l0 = some r) :
    Calls Try.prog 54 #[.slice A0 l0.length c0] w fun e w' => e = .returned (.int .i64 r) ∧ Below w.heap.size w w' := by
  have hu49 := Try.underlying49
  have hu37 := Try.underlying37
  have HR0 := Aside0.mk hr0
  have HC0 := Aside0.mk hc0
  clear hr0 hc0
  have HB := Aside0.mk (Below.refl w.heap.size w)
  have H : (if (l0.length : Int) > 64 then (some 2) else (if (l0.length : Int) = 0 then (some 3) else (fly_Check.l0 k l0 l0 (l0.length : Int) 0))) = some r := h
  clear h
  by_cases c2 : (l0.length : Int) > 64
  · rw [if_pos c2] at H
    have c2b0 : decide (64 < (l0.length : Int)) = true := decide_eq_true c2
    have c2b1 : decide (64 < l0.length) = true := decide_eq_true (by omega)
    clear c2
    obtain rfl := Option.some.inj H
    go_enter Try.func54, Try.ntmps54
    go_wp2
    repeat (go_quiet (fail); try go_wp2)
    go_ret
    exact ⟨by first | rfl | (simp [errW_none, errW_some] <;> rfl) | (simp [*, errW_none, errW_some] <;> rfl), by repeat (first | (with_reducible first | exact HB.out | apply below_alloc | apply pw_below_drewN | apply below_drew1) | exact HB.out)⟩
  · rw [if_neg c2] at H
    have c2b0 : decide (64 < (l0.length : Int)) = false := decide_eq_false c2
    have c2b1 : decide (64 < l0.length) = false := decide_eq_false (by omega)
    clear c2
    by_cases c3 : (l0.length : Int) = 0
    · rw [if_pos c3] at H
      have c3b0 : ((l0.length : Int) == 0) = true := beq_iff_eq.mpr c3
      have c3b1 : ((l0.length : Int) != 0) = false := bne_eq_false_iff_eq.mpr c3
      clear c3
      obtain rfl := Option.some.inj H
      go_enter Try.func54, Try.ntmps54
      go_wp2
      repeat (go_quiet (fail); try go_wp2)
      go_ret
      exact ⟨by first | rfl | (simp [errW_none, errW_some] <;> rfl) | (simp [*, errW_none, errW_some] <;> rfl), by repeat (first | (with_reducible first | exact HB.out | apply below_alloc | apply pw_below_drewN | apply below_drew1) | exact HB.out)⟩
    · rw [if_neg c3] at H
      have c3b0 : ((l0.length : Int) == 0) = false := beq_eq_false_iff_ne.mpr c3
      have c3b1 : ((l0.length : Int) != 0) = true := bne_iff_ne.mpr c3
      have c3b2 : ¬ (l0 = []) := fun h_ => c3 (by rw [h_]; rfl)
      have H' := Aside0.mk H
      clear H
      go_enter Try.func54, Try.ntmps54
      go_wp2
      repeat (go_quiet (fail); try go_wp2)
      go_loopg [16] k (fun kq v16 w' => ∃ (x16_1 : Int), v16 = .int .i64 x16_1 ∧ Aside0 (fly_Check.l0 kq l0 l0 (l0.length : Int) x16_1 = some r) ∧ Aside0 (kq ≤ k) ∧ Aside0 (Below w.heap.size w w'))
      case atStart => exact ⟨(0), (by first | rfl | (simp; done) | (simp [*]; done)), H', ⟨Nat.le_refl _⟩, ⟨by repeat (first | (with_reducible first | exact HB.out | apply below_alloc | apply pw_below_drewN | apply below_drew1) | exact HB.out)⟩⟩
      case round =>
        clear H'
        try clear c2
        try clear c2b0
        try clear c2b1
        try clear p2
        try clear c3
        try clear c3b0
        try clear c3b1
        try clear c3b2
        obtain ⟨x16_1, rfl, HA, HK1, HB⟩ := hrel
        cases gk with
        | zero => exact absurd HA.out (by simp [fly_Check.l0])
        | succ k1 =>
          have H := HA.out
          clear HA
          simp only [fly_Check.l0] at H
          by_cases c4 : x16_1 < (l0.length : Int)
          · rw [if_pos c4] at H
            have c4b0 : decide (x16_1 < (l0.length : Int)) = true := decide_eq_true c4
            clear c4
            by_cases c5 : 0 ≤ x16_1
            · rw [if_pos c5] at H
              have c5b0 : decide (0 ≤ x16_1) = true := decide_eq_true c5
              clear c5
              by_cases c6 : x16_1 < (l0.length : Int)
              · rw [if_pos c6] at H
                have c6b0 : decide (x16_1 < (l0.length : Int)) = true := decide_eq_true c6
                clear c6
                have HC7 := Aside0.mk H
                clear H
                have p102 : 0 ≤ (x16_1 : Int) := of_decide_eq_true (by first | (with_reducible assumption) | assumption)
                have q102 : x16_1 < (l0.length : Int) := of_decide_eq_true (by first | (with_reducible assumption) | assumption)
                obtain ⟨ad102, e102, hx102_0, hx102_1, hx102_2, hx102_3⟩ := at_T49 HR0.out x16_1 p102 q102
                cases e102
                replace hx102_0 := (HB.out.cell (World.block_lt_of_cell? w _ hx102_0)).trans hx102_0
                replace hx102_1 := (HB.out.cell (World.block_lt_of_cell? w _ hx102_1)).trans hx102_1
                replace hx102_2 := (HB.out.cell (World.block_lt_of_cell? w _ hx102_2)).trans hx102_2
                replace hx102_3 := (HB.out.cell (World.block_lt_of_cell? w _ hx102_3)).trans hx102_3
                replace p102 := eq_true p102
                replace q102 := eq_true q102
                go_upto_region 8 with (first | ((with_reducible refine gate_dst (N := 4) rfl ?_); refine box_event ?hg (N := 4) ?hd (cs := #[.int .i64 0, .int .i64 0, .int .i64 0, .int .i64 0]) (t := 49) ?hr ?_; (case hd => rfl); (case hg => rfl); (case hr => first | (go_simp; done) | (go_simp; rfl)); intro gb103 hg w8 hbox hb; have n0_ := Aside0.mk (below_step (by repeat (first | (with_reducible first | exact HB.out | apply below_alloc | apply pw_below_drewN | apply below_drew1) | exact HB.out)) hb); have n1_ := Aside0.mk (hbox); have n2_ := Aside0.mk ((by rw [hg]; exact (below_size (by repeat (first | (with_reducible first | exact HB.out | apply below_alloc | apply pw_below_drewN | apply below_drew1) | exact HB.out))) : w.heap.size ≤ gb103)); have n3_ := Aside0.mk ((by rw [hg]; exact (below_size (by repeat (first | (with_reducible first | exact HB.out | apply below_alloc | apply pw_below_drewN | apply below_drew1) | exact HB.out))) : w.heap.size ≤ gb103)); clear HB; have HB := n0_; have BK103 := n1_; have GW103 := n2_; have GE103 := n3_; clear n0_ n1_ n2_ n3_; clear hb hbox hg; have hcz9_0 : w8.cell? ⟨gb103, 0, none⟩ = some (.int .i64 0) := (blk_cell BK103.out 0).trans rfl; have hcz9_1 : w8.cell? ⟨gb103, 1, none⟩ = some (.int .i64 0) := (blk_cell BK103.out 1).trans rfl; have hcz9_2 : w8.cell? ⟨gb103, 2, none⟩ = some (.int .i64 0) := (blk_cell BK103.out 2).trans rfl; have hcz9_3 : w8.cell? ⟨gb103, 3, none⟩ = some (.int .i64 0) := (blk_cell BK103.out 3).trans rfl; have hfz9_0 := blk_frozen BK103.out 0; have hfz9_1 := blk_frozen BK103.out 1; have hfz9_2 := blk_frozen BK103.out 2; have hfz9_3 := blk_frozen BK103.out 3))
                repeat (go_quiet (first | ((with_reducible refine gate_dst (N := 4) rfl ?_); refine box_event ?hg (N := 4) ?hd (cs := #[.int .i64 0, .int .i64 0, .int .i64 0, .int .i64 0]) (t := 49) ?hr ?_; (case hd => rfl); (case hg => rfl); (case hr => first | (go_simp; done) | (go_simp; rfl)); intro gb103 hg w8 hbox hb; have n0_ := Aside0.mk (below_step (by repeat (first | (with_reducible first | exact HB.out | apply below_alloc | apply pw_below_drewN | apply below_drew1) | exact HB.out)) hb); have n1_ := Aside0.mk (hbox); have n2_ := Aside0.mk ((by rw [hg]; exact (below_size (by repeat (first | (with_reducible first | exact HB.out | apply below_alloc | apply pw_below_drewN | apply below_drew1) | exact HB.out))) : w.heap.size ≤ gb103)); have n3_ := Aside0.mk ((by rw [hg]; exact (below_size (by repeat (first | (with_reducible first | exact HB.out | apply below_alloc | apply pw_below_drewN | apply below_drew1) | exact HB.out))) : w.heap.size ≤ gb103)); clear HB; have HB := n0_; have BK103 := n1_; have GW103 := n2_; have GE103 := n3_; clear n0_ n1_ n2_ n3_; clear hb hbox hg; have hcz9_0 : w8.cell? ⟨gb103, 0, none⟩ = some (.int .i64 0) := (blk_cell BK103.out 0).trans rfl; have hcz9_1 : w8.cell? ⟨gb103, 1, none⟩ = some (.int .i64 0) := (blk_cell BK103.out 1).trans rfl; have hcz9_2 : w8.cell? ⟨gb103, 2, none⟩ = some (.int .i64 0) := (blk_cell BK103.out 2).trans rfl; have hcz9_3 : w8.cell? ⟨gb103, 3, none⟩ = some (.int .i64 0) := (blk_cell BK103.out 3).trans rfl; have hfz9_0 := blk_frozen BK103.out 0; have hfz9_1 := blk_frozen BK103.out 1; have hfz9_2 := blk_frozen BK103.out 2; have hfz9_3 := blk_frozen BK103.out 3)); go_upto_region 8 with (first | ((with_reducible refine gate_dst (N := 4) rfl ?_); refine box_event ?hg (N := 4) ?hd (cs := #[.int .i64 0, .int .i64 0, .int .i64 0, .int .i64 0]) (t := 49) ?hr ?_; (case hd => rfl); (case hg => rfl); (case hr => first | (go_simp; done) | (go_simp; rfl)); intro gb103 hg w8 hbox hb; have n0_ := Aside0.mk (below_step (by repeat (first | (with_reducible first | exact HB.out | apply below_alloc | apply pw_below_drewN | apply below_drew1) | exact HB.out)) hb); have n1_ := Aside0.mk (hbox); have n2_ := Aside0.mk ((by rw [hg]; exact (below_size (by repeat (first | (with_reducible first | exact HB.out | apply below_alloc | apply pw_below_drewN | apply below_drew1) | exact HB.out))) : w.heap.size ≤ gb103)); have n3_ := Aside0.mk ((by rw [hg]; exact (below_size (by repeat (first | (with_reducible first | exact HB.out | apply below_alloc | apply pw_below_drewN | apply below_drew1) | exact HB.out))) : w.heap.size ≤ gb103)); clear HB; have HB := n0_; have BK103 := n1_; have GW103 := n2_; have GE103 := n3_; clear n0_ n1_ n2_ n3_; clear hb hbox hg; have hcz9_0 : w8.cell? ⟨gb103, 0, none⟩ = some (.int .i64 0) := (blk_cell BK103.out 0).trans rfl; have hcz9_1 : w8.cell? ⟨gb103, 1, none⟩ = some (.int .i64 0) := (blk_cell BK103.out 1).trans rfl; have hcz9_2 : w8.cell? ⟨gb103, 2, none⟩ = some (.int .i64 0) := (blk_cell BK103.out 2).trans rfl; have hcz9_3 : w8.cell? ⟨gb103, 3, none⟩ = some (.int .i64 0) := (blk_cell BK103.out 3).trans rfl; have hfz9_0 := blk_frozen BK103.out 0; have hfz9_1 := blk_frozen BK103.out 1; have hfz9_2 := blk_frozen BK103.out 2; have hfz9_3 := blk_frozen BK103.out 3)))
                (try simp only [Act.put, List.setIfInBounds_toArray, List.set_cons_zero, List.set_cons_succ])
                go_cut [43] (fun v43 wc => ∃ (kq : Nat) (x43_6 : Bool), v43 = .bool x43_6 ∧ Aside0 (fly_Check.j1 kq l0 l0 (l0.length : Int) x16_1 x43_6 ((rd_T49 l0 x16_1).f0) ((rd_T49 l0 x16_1).f1.f0) ((rd_T49 l0 x16_1).f1.f1) ((rd_T49 l0 x16_1).f2) = some r) ∧ Aside0 (kq ≤ k1) ∧ Aside0 (wc.heap[gb103]? = some (.cells #[.int .i64 ((rd_T49 l0 x16_1).f0), .int .i64 ((rd_T49 l0 x16_1).f1.f0), .int .i64 ((rd_T49 l0 x16_1).f1.f1), .int .i64 ((rd_T49 l0 x16_1).f2)] 49 (0, 0))) ∧ Aside0 (Below w.heap.size w wc))
                case first =>
                  have H := HC7.out
                  clear HC7
                  by_cases c10 : ((rd_T49 l0 x16_1).f0) < 0
                  · rw [if_pos c10] at H
                    have c10b0 : decide (((rd_T49 l0 x16_1).f0) < 0) = true := decide_eq_true c10
                    clear c10
                    (first | rw [c10b0] | (simp only [i64_w, i32_w]; rw [c10b0]) | skip)
                    have H' := Aside0.mk H
                    clear H
                    have hcz11_0 : w8.cell? ⟨gb103, 0, none⟩ = some (.int .i64 0) := (blk_cell BK103.out 0).trans rfl
                    have hcz11_1 : w8.cell? ⟨gb103, 1, none⟩ = some (.int .i64 0) := (blk_cell BK103.out 1).trans rfl
                    have hcz11_2 : w8.cell? ⟨gb103, 2, none⟩ = some (.int .i64 0) := (blk_cell BK103.out 2).trans rfl
                    have hcz11_3 : w8.cell? ⟨gb103, 3, none⟩ = some (.int .i64 0) := (blk_cell BK103.out 3).trans rfl
                    have hfz11_0 := blk_frozen BK103.out 0
                    have hfz11_1 := blk_frozen BK103.out 1
                    have hfz11_2 := blk_frozen BK103.out 2
                    have hfz11_3 := blk_frozen BK103.out 3
                    go_wp2
                    repeat (go_quiet (fail); try go_wp2)
                    go_meet
                    case rel => exact ⟨_, (true), (by first | rfl | (simp; done) | (simp [*]; done)), H', ⟨by have := HK1.out; first | omega | exact Nat.le_refl _⟩, ⟨by (with_reducible repeat (first | refine blk_drewN ?_ _ | refine blk_drew ?_ | refine blk_alloc ?_ _)); refine blk_put (cs := #[.int .i64 ((rd_T49 l0 x16_1).f0), .int .i64 ((rd_T49 l0 x16_1).f1.f0), .int .i64 ((rd_T49 l0 x16_1).f1.f1), .int .i64 0]) ?_ 3 _ rfl; (with_reducible repeat (first | refine blk_drewN ?_ _ | refine blk_drew ?_ | refine blk_alloc ?_ _)); refine blk_put (cs := #[.int .i64 ((rd_T49 l0 x16_1).f0), .int .i64 ((rd_T49 l0 x16_1).f1.f0), .int .i64 0, .int .i64 0]) ?_ 2 _ rfl; (with_reducible repeat (first | refine blk_drewN ?_ _ | refine blk_drew ?_ | refine blk_alloc ?_ _)); refine blk_put (cs := #[.int .i64 ((rd_T49 l0 x16_1).f0), .int .i64 0, .int .i64 0, .int .i64 0]) ?_ 1 _ rfl; (with_reducible repeat (first | refine blk_drewN ?_ _ | refine blk_drew ?_ | refine blk_alloc ?_ _)); refine blk_put (cs := #[.int .i64 0, .int .i64 0, .int .i64 0, .int .i64 0]) ?_ 0 _ rfl; (with_reducible repeat (first | refine blk_drewN ?_ _ | refine blk_drew ?_ | refine blk_alloc ?_ _)); exact BK103.out⟩, ⟨by repeat (first | (with_reducible first | exact HB.out | apply below_alloc | apply pw_below_drewN | apply below_drew1 | refine below_set ?_ GE103.out) | exact HB.out)⟩⟩
                  · rw [if_neg c10] at H
                    have c10b0 : decide (((rd_T49 l0 x16_1).f0) < 0) = false := decide_eq_false c10
                    clear c10
                    (first | rw [c10b0] | (simp only [i64_w, i32_w]; rw [c10b0]) | skip)
                    by_cases c12 : ((rd_T49 l0 x16_1).f0) > 200000
                    · rw [if_pos c12] at H
                      have c12b0 : decide (200000 < ((rd_T49 l0 x16_1).f0)) = true := decide_eq_true c12
                      clear c12
                      have H' := Aside0.mk H
                      clear H
                      have hcz13_0 : w8.cell? ⟨gb103, 0, none⟩ = some (.int .i64 0) := (blk_cell BK103.out 0).trans rfl
                      have hcz13_1 : w8.cell? ⟨gb103, 1, none⟩ = some (.int .i64 0) := (blk_cell BK103.out 1).trans rfl
                      have hcz13_2 : w8.cell? ⟨gb103, 2, none⟩ = some (.int .i64 0) := (blk_cell BK103.out 2).trans rfl
                      have hcz13_3 : w8.cell? ⟨gb103, 3, none⟩ = some (.int .i64 0) := (blk_cell BK103.out 3).trans rfl
                      have hfz13_0 := blk_frozen BK103.out 0
                      have hfz13_1 := blk_frozen BK103.out 1
                      have hfz13_2 := blk_frozen BK103.out 2
                      have hfz13_3 := blk_frozen BK103.out 3
                      go_wp2
                      repeat (go_quiet (fail); try go_wp2)
                      go_meet
                      case rel => exact ⟨_, (true), (by first | rfl | (simp; done) | (simp [*]; done)), H', ⟨by have := HK1.out; first | omega | exact Nat.le_refl _⟩, ⟨by (with_reducible repeat (first | refine blk_drewN ?_ _ | refine blk_drew ?_ | refine blk_alloc ?_ _)); refine blk_put (cs := #[.int .i64 ((rd_T49 l0 x16_1).f0), .int .i64 ((rd_T49 l0 x16_1).f1.f0), .int .i64 ((rd_T49 l0 x16_1).f1.f1), .int .i64 0]) ?_ 3 _ rfl; (with_reducible repeat (first | refine blk_drewN ?_ _ | refine blk_drew ?_ | refine blk_alloc ?_ _)); refine blk_put (cs := #[.int .i64 ((rd_T49 l0 x16_1).f0), .int .i64 ((rd_T49 l0 x16_1).f1.f0), .int .i64 0, .int .i64 0]) ?_ 2 _ rfl; (with_reducible repeat (first | refine blk_drewN ?_ _ | refine blk_drew ?_ | refine blk_alloc ?_ _)); refine blk_put (cs := #[.int .i64 ((rd_T49 l0 x16_1).f0), .int .i64 0, .int .i64 0, .int .i64 0]) ?_ 1 _ rfl; (with_reducible repeat (first | refine blk_drewN ?_ _ | refine blk_drew ?_ | refine blk_alloc ?_ _)); refine blk_put (cs := #[.int .i64 0, .int .i64 0, .int .i64 0, .int .i64 0]) ?_ 0 _ rfl; (with_reducible repeat (first | refine blk_drewN ?_ _ | refine blk_drew ?_ | refine blk_alloc ?_ _)); exact BK103.out⟩, ⟨by repeat (first | (with_reducible first | exact HB.out | apply below_alloc | apply pw_below_drewN | apply below_drew1 | refine below_set ?_ GE103.out) | exact HB.out)⟩⟩
                    · rw [if_neg c12] at H
                      have c12b0 : decide (200000 < ((rd_T49 l0 x16_1).f0)) = false := decide_eq_false c12
                      clear c12
                      by_cases c14 : x16_1 > 0
                      · rw [if_pos c14] at H
                        have c14b0 : decide (0 < x16_1) = true := decide_eq_true c14
                        clear c14
                        obtain ⟨ji15, hji15⟩ : ∃ j_ : Int, (wrap64 (x16_1 - 1)) = j_ := ⟨_, rfl⟩
                        replace H : (if 0 ≤ (ji15) then (if (ji15) < (l0.length : Int) then (fly_Check.j1 k1 l0 l0 (l0.length : Int) x16_1 (decide (((rd_T49 l0 x16_1).f0) ≤ ((rd_T49 l0 (ji15)).f0))) ((rd_T49 l0 x16_1).f0) ((rd_T49 l0 x16_1).f1.f0) ((rd_T49 l0 x16_1).f1.f1) ((rd_T49 l0 x16_1).f2)) else (none)) else (none)) = some r := by first | (rw [hji15] at H; exact H) | (simp only [hji15] at H ⊢; exact H)
                        have hji15w : (IntKind.i64.wrap (x16_1 - 1)) = ji15 := (i64_w _).trans hji15
                        by_cases c16 : 0 ≤ (ji15)
                        · rw [if_pos c16] at H
                          have c16b0 : decide (0 ≤ (ji15)) = true := decide_eq_true c16
                          clear c16
                          by_cases c17 : (ji15) < (l0.length : Int)
                          · rw [if_pos c17] at H
                            have c17b0 : decide ((ji15) < (l0.length : Int)) = true := decide_eq_true c17
                            clear c17
                            have H' := Aside0.mk H
                            clear H
                            have hcz18_0 : w8.cell? ⟨gb103, 0, none⟩ = some (.int .i64 0) := (blk_cell BK103.out 0).trans rfl
                            have hcz18_1 : w8.cell? ⟨gb103, 1, none⟩ = some (.int .i64 0) := (blk_cell BK103.out 1).trans rfl
                            have hcz18_2 : w8.cell? ⟨gb103, 2, none⟩ = some (.int .i64 0) := (blk_cell BK103.out 2).trans rfl
                            have hcz18_3 : w8.cell? ⟨gb103, 3, none⟩ = some (.int .i64 0) := (blk_cell BK103.out 3).trans rfl
                            have hfz18_0 := blk_frozen BK103.out 0
                            have hfz18_1 := blk_frozen BK103.out 1
                            have hfz18_2 := blk_frozen BK103.out 2
                            have hfz18_3 := blk_frozen BK103.out 3
                            have p104 : 0 ≤ ((ji15) : Int) := of_decide_eq_true (by first | (with_reducible assumption) | assumption)
                            have q104 : (ji15) < (l0.length : Int) := of_decide_eq_true (by first | (with_reducible assumption) | assumption)
                            obtain ⟨ad104, e104, hx104_0, hx104_1, hx104_2, hx104_3⟩ := at_T49 HR0.out (ji15) p104 q104
                            obtain rfl : ad102 = ad104 := (by injection e104)
                            have hn104_0 : ad102.block ≠ gb103 := Nat.ne_of_lt (Nat.lt_of_lt_of_le (by have := World.block_lt_of_cell? _ _ hx104_0; first | rwa [add_block] at this | exact this) GW103.out)
                            have hn104_1 : ad102.block ≠ gb103 := Nat.ne_of_lt (Nat.lt_of_lt_of_le (by have := World.block_lt_of_cell? _ _ hx104_0; first | rwa [add_block] at this | exact this) GW103.out)
                            have hn104_2 : ad102.block ≠ gb103 := Nat.ne_of_lt (Nat.lt_of_lt_of_le (by have := World.block_lt_of_cell? _ _ hx104_0; first | rwa [add_block] at this | exact this) GW103.out)
                            have hn104_3 : ad102.block ≠ gb103 := Nat.ne_of_lt (Nat.lt_of_lt_of_le (by have := World.block_lt_of_cell? _ _ hx104_0; first | rwa [add_block] at this | exact this) GW103.out)
                            replace hx104_0 := (HB.out.cell (World.block_lt_of_cell? w _ hx104_0)).trans hx104_0
                            replace hx104_1 := (HB.out.cell (World.block_lt_of_cell? w _ hx104_1)).trans hx104_1
                            replace hx104_2 := (HB.out.cell (World.block_lt_of_cell? w _ hx104_2)).trans hx104_2
                            replace hx104_3 := (HB.out.cell (World.block_lt_of_cell? w _ hx104_3)).trans hx104_3
                            replace hx104_0 := (cell_far (p := ⟨gb103, 0, none⟩) (by first | (rw [add_block]; exact hn104_0) | (show (Addr.add _ _).block ≠ _; rw [add_block]; exact hn104_0) | exact hn104_0) (.int .i64 ((rd_T49 l0 x16_1).f0))).trans hx104_0
                            replace hx104_1 := (cell_far (p := ⟨gb103, 0, none⟩) (by first | (rw [add_block]; exact hn104_0) | (show (Addr.add _ _).block ≠ _; rw [add_block]; exact hn104_0) | exact hn104_0) (.int .i64 ((rd_T49 l0 x16_1).f0))).trans hx104_1
                            replace hx104_2 := (cell_far (p := ⟨gb103, 0, none⟩) (by first | (rw [add_block]; exact hn104_0) | (show (Addr.add _ _).block ≠ _; rw [add_block]; exact hn104_0) | exact hn104_0) (.int .i64 ((rd_T49 l0 x16_1).f0))).trans hx104_2
                            replace hx104_3 := (cell_far (p := ⟨gb103, 0, none⟩) (by first | (rw [add_block]; exact hn104_0) | (show (Addr.add _ _).block ≠ _; rw [add_block]; exact hn104_0) | exact hn104_0) (.int .i64 ((rd_T49 l0 x16_1).f0))).trans hx104_3
                            replace hx104_0 := (cell_far (p := ⟨gb103, 1, none⟩) (by first | (rw [add_block]; exact hn104_1) | (show (Addr.add _ _).block ≠ _; rw [add_block]; exact hn104_1) | exact hn104_1) (.int .i64 ((rd_T49 l0 x16_1).f1.f0))).trans hx104_0
                            replace hx104_1 := (cell_far (p := ⟨gb103, 1, none⟩) (by first | (rw [add_block]; exact hn104_1) | (show (Addr.add _ _).block ≠ _; rw [add_block]; exact hn104_1) | exact hn104_1) (.int .i64 ((rd_T49 l0 x16_1).f1.f0))).trans hx104_1
                            replace hx104_2 := (cell_far (p := ⟨gb103, 1, none⟩) (by first | (rw [add_block]; exact hn104_1) | (show (Addr.add _ _).block ≠ _; rw [add_block]; exact hn104_1) | exact hn104_1) (.int .i64 ((rd_T49 l0 x16_1).f1.f0))).trans hx104_2
                            replace hx104_3 := (cell_far (p := ⟨gb103, 1, none⟩) (by first | (rw [add_block]; exact hn104_1) | (show (Addr.add _ _).block ≠ _; rw [add_block]; exact hn104_1) | exact hn104_1) (.int .i64 ((rd_T49 l0 x16_1).f1.f0))).trans hx104_3
                            replace hx104_0 := (cell_far (p := ⟨gb103, 2, none⟩) (by first | (rw [add_block]; exact hn104_2) | (show (Addr.add _ _).block ≠ _; rw [add_block]; exact hn104_2) | exact hn104_2) (.int .i64 ((rd_T49 l0 x16_1).f1.f1))).trans hx104_0
                            replace hx104_1 := (cell_far (p := ⟨gb103, 2, none⟩) (by first | (rw [add_block]; exact hn104_2) | (show (Addr.add _ _).block ≠ _; rw [add_block]; exact hn104_2) | exact hn104_2) (.int .i64 ((rd_T49 l0 x16_1).f1.f1))).trans hx104_1
                            replace hx104_2 := (cell_far (p := ⟨gb103, 2, none⟩) (by first | (rw [add_block]; exact hn104_2) | (show (Addr.add _ _).block ≠ _; rw [add_block]; exact hn104_2) | exact hn104_2) (.int .i64 ((rd_T49 l0 x16_1).f1.f1))).trans hx104_2
                            replace hx104_3 := (cell_far (p := ⟨gb103, 2, none⟩) (by first | (rw [add_block]; exact hn104_2) | (show (Addr.add _ _).block ≠ _; rw [add_block]; exact hn104_2) | exact hn104_2) (.int .i64 ((rd_T49 l0 x16_1).f1.f1))).trans hx104_3
                            replace hx104_0 := (cell_far (p := ⟨gb103, 3, none⟩) (by first | (rw [add_block]; exact hn104_3) | (show (Addr.add _ _).block ≠ _; rw [add_block]; exact hn104_3) | exact hn104_3) (.int .i64 ((rd_T49 l0 x16_1).f2))).trans hx104_0
                            replace hx104_1 := (cell_far (p := ⟨gb103, 3, none⟩) (by first | (rw [add_block]; exact hn104_3) | (show (Addr.add _ _).block ≠ _; rw [add_block]; exact hn104_3) | exact hn104_3) (.int .i64 ((rd_T49 l0 x16_1).f2))).trans hx104_1
                            replace hx104_2 := (cell_far (p := ⟨gb103, 3, none⟩) (by first | (rw [add_block]; exact hn104_3) | (show (Addr.add _ _).block ≠ _; rw [add_block]; exact hn104_3) | exact hn104_3) (.int .i64 ((rd_T49 l0 x16_1).f2))).trans hx104_2
                            replace hx104_3 := (cell_far (p := ⟨gb103, 3, none⟩) (by first | (rw [add_block]; exact hn104_3) | (show (Addr.add _ _).block ≠ _; rw [add_block]; exact hn104_3) | exact hn104_3) (.int .i64 ((rd_T49 l0 x16_1).f2))).trans hx104_3
                            (try have hy104_0 := fun (n_ : Nat) => (show ((((((w8.drewN n_).setCell ⟨gb103, 0, none⟩ (.int .i64 ((rd_T49 l0 x16_1).f0))).setCell ⟨gb103, 1, none⟩ (.int .i64 ((rd_T49 l0 x16_1).f1.f0))).setCell ⟨gb103, 2, none⟩ (.int .i64 ((rd_T49 l0 x16_1).f1.f1))).setCell ⟨gb103, 3, none⟩ (.int .i64 ((rd_T49 l0 x16_1).f2)))).cell? _ = some _ from hx104_0))
                            (try have hy104_1 := fun (n_ : Nat) => (show ((((((w8.drewN n_).setCell ⟨gb103, 0, none⟩ (.int .i64 ((rd_T49 l0 x16_1).f0))).setCell ⟨gb103, 1, none⟩ (.int .i64 ((rd_T49 l0 x16_1).f1.f0))).setCell ⟨gb103, 2, none⟩ (.int .i64 ((rd_T49 l0 x16_1).f1.f1))).setCell ⟨gb103, 3, none⟩ (.int .i64 ((rd_T49 l0 x16_1).f2)))).cell? _ = some _ from hx104_1))
                            (try have hy104_2 := fun (n_ : Nat) => (show ((((((w8.drewN n_).setCell ⟨gb103, 0, none⟩ (.int .i64 ((rd_T49 l0 x16_1).f0))).setCell ⟨gb103, 1, none⟩ (.int .i64 ((rd_T49 l0 x16_1).f1.f0))).setCell ⟨gb103, 2, none⟩ (.int .i64 ((rd_T49 l0 x16_1).f1.f1))).setCell ⟨gb103, 3, none⟩ (.int .i64 ((rd_T49 l0 x16_1).f2)))).cell? _ = some _ from hx104_2))
                            (try have hy104_3 := fun (n_ : Nat) => (show ((((((w8.drewN n_).setCell ⟨gb103, 0, none⟩ (.int .i64 ((rd_T49 l0 x16_1).f0))).setCell ⟨gb103, 1, none⟩ (.int .i64 ((rd_T49 l0 x16_1).f1.f0))).setCell ⟨gb103, 2, none⟩ (.int .i64 ((rd_T49 l0 x16_1).f1.f1))).setCell ⟨gb103, 3, none⟩ (.int .i64 ((rd_T49 l0 x16_1).f2)))).cell? _ = some _ from hx104_3))
                            clear hn104_0
                            clear hn104_1
                            clear hn104_2
                            clear hn104_3
                            replace p104 := eq_true p104
                            replace q104 := eq_true q104
                            go_wp2
                            repeat (go_quiet (fail); try go_wp2)
                            go_meet
                            case rel => exact ⟨_, (decide (((rd_T49 l0 x16_1).f0) ≤ ((rd_T49 l0 (ji15)).f0))), (by first | rfl | (simp; done) | (simp only [← hji15] <;> (first | rfl | simp)) | (simp [*]; done)), H', ⟨by have := HK1.out; first | omega | exact Nat.le_refl _⟩, ⟨by (with_reducible repeat (first | refine blk_drewN ?_ _ | refine blk_drew ?_ | refine blk_alloc ?_ _)); refine blk_put (cs := #[.int .i64 ((rd_T49 l0 x16_1).f0), .int .i64 ((rd_T49 l0 x16_1).f1.f0), .int .i64 ((rd_T49 l0 x16_1).f1.f1), .int .i64 0]) ?_ 3 _ rfl; (with_reducible repeat (first | refine blk_drewN ?_ _ | refine blk_drew ?_ | refine blk_alloc ?_ _)); refine blk_put (cs := #[.int .i64 ((rd_T49 l0 x16_1).f0), .int .i64 ((rd_T49 l0 x16_1).f1.f0), .int .i64 0, .int .i64 0]) ?_ 2 _ rfl; (with_reducible repeat (first | refine blk_drewN ?_ _ | refine blk_drew ?_ | refine blk_alloc ?_ _)); refine blk_put (cs := #[.int .i64 ((rd_T49 l0 x16_1).f0), .int .i64 0, .int .i64 0, .int .i64 0]) ?_ 1 _ rfl; (with_reducible repeat (first | refine blk_drewN ?_ _ | refine blk_drew ?_ | refine blk_alloc ?_ _)); refine blk_put (cs := #[.int .i64 0, .int .i64 0, .int .i64 0, .int .i64 0]) ?_ 0 _ rfl; (with_reducible repeat (first | refine blk_drewN ?_ _ | refine blk_drew ?_ | refine blk_alloc ?_ _)); exact BK103.out⟩, ⟨by repeat (first | (with_reducible first | exact HB.out | apply below_alloc | apply pw_below_drewN | apply below_drew1 | refine below_set ?_ GE103.out) | exact HB.out)⟩⟩
                          · rw [if_neg c17] at H
                            exact absurd H (by simp)
                        · rw [if_neg c16] at H
                          exact absurd H (by simp)
                      · rw [if_neg c14] at H
                        have c14b0 : decide (0 < x16_1) = false := decide_eq_false c14
                        clear c14
                        have H' := Aside0.mk H
                        clear H
                        have hcz19_0 : w8.cell? ⟨gb103, 0, none⟩ = some (.int .i64 0) := (blk_cell BK103.out 0).trans rfl
                        have hcz19_1 : w8.cell? ⟨gb103, 1, none⟩ = some (.int .i64 0) := (blk_cell BK103.out 1).trans rfl
                        have hcz19_2 : w8.cell? ⟨gb103, 2, none⟩ = some (.int .i64 0) := (blk_cell BK103.out 2).trans rfl
                        have hcz19_3 : w8.cell? ⟨gb103, 3, none⟩ = some (.int .i64 0) := (blk_cell BK103.out 3).trans rfl
                        have hfz19_0 := blk_frozen BK103.out 0
                        have hfz19_1 := blk_frozen BK103.out 1
                        have hfz19_2 := blk_frozen BK103.out 2
                        have hfz19_3 := blk_frozen BK103.out 3
                        go_wp2
                        repeat (go_quiet (fail); try go_wp2)
                        go_meet
                        case rel => exact ⟨_, (false), (by first | rfl | (simp; done) | (simp [*]; done)), H', ⟨by have := HK1.out; first | omega | exact Nat.le_refl _⟩, ⟨by (with_reducible repeat (first | refine blk_drewN ?_ _ | refine blk_drew ?_ | refine blk_alloc ?_ _)); refine blk_put (cs := #[.int .i64 ((rd_T49 l0 x16_1).f0), .int .i64 ((rd_T49 l0 x16_1).f1.f0), .int .i64 ((rd_T49 l0 x16_1).f1.f1), .int .i64 0]) ?_ 3 _ rfl; (with_reducible repeat (first | refine blk_drewN ?_ _ | refine blk_drew ?_ | refine blk_alloc ?_ _)); refine blk_put (cs := #[.int .i64 ((rd_T49 l0 x16_1).f0), .int .i64 ((rd_T49 l0 x16_1).f1.f0), .int .i64 0, .int .i64 0]) ?_ 2 _ rfl; (with_reducible repeat (first | refine blk_drewN ?_ _ | refine blk_drew ?_ | refine blk_alloc ?_ _)); refine blk_put (cs := #[.int .i64 ((rd_T49 l0 x16_1).f0), .int .i64 0, .int .i64 0, .int .i64 0]) ?_ 1 _ rfl; (with_reducible repeat (first | refine blk_drewN ?_ _ | refine blk_drew ?_ | refine blk_alloc ?_ _)); refine blk_put (cs := #[.int .i64 0, .int .i64 0, .int .i64 0, .int .i64 0]) ?_ 0 _ rfl; (with_reducible repeat (first | refine blk_drewN ?_ _ | refine blk_drew ?_ | refine blk_alloc ?_ _)); exact BK103.out⟩, ⟨by repeat (first | (with_reducible first | exact HB.out | apply below_alloc | apply pw_below_drewN | apply below_drew1 | refine below_set ?_ GE103.out) | exact HB.out)⟩⟩
                case rest =>
                  clear HC7
                  try clear c1
                  try clear p1
                  try clear q1
                  try clear hx1
                  try clear c2
                  try clear c2b0
                  try clear c2b1
                  try clear p2
                  try clear c3
                  try clear c3b0
                  try clear c3b1
                  try clear c3b2
                  try clear c4
                  try clear c4b0
                  try clear c5
                  try clear c5b0
                  try clear c6
                  try clear c6b0
                  try clear p6
                  try clear c10
                  try clear c10b0
                  try clear p10
                  try clear q10
                  try clear hx10
                  try clear c12
                  try clear c12b0
                  try clear c14
                  try clear c14b0
                  try clear c16
                  try clear c16b0
                  try clear c17
                  try clear c17b0
                  try clear hcz11_0
                  try clear hcz11_1
                  try clear hcz11_2
                  try clear hcz11_3
                  try clear hcz13_0
                  try clear hcz13_1
                  try clear hcz13_2
                  try clear hcz13_3
                  try clear hcz18_0
                  try clear hcz18_1
                  try clear hcz18_2
                  try clear hcz18_3
                  try clear hcz19_0
                  try clear hcz19_1
                  try clear hcz19_2
                  try clear hcz19_3
                  try clear hcz9_0
                  try clear hcz9_1
                  try clear hcz9_2
                  try clear hcz9_3
                  try clear hfz11_0
                  try clear hfz11_1
                  try clear hfz11_2
                  try clear hfz11_3
                  try clear hfz13_0
                  try clear hfz13_1
                  try clear hfz13_2
                  try clear hfz13_3
                  try clear hfz18_0
                  try clear hfz18_1
                  try clear hfz18_2
                  try clear hfz18_3
                  try clear hfz19_0
                  try clear hfz19_1
                  try clear hfz19_2
                  try clear hfz19_3
                  try clear hfz9_0
                  try clear hfz9_1
                  try clear hfz9_2
                  try clear hfz9_3
                  try clear hx102_0
                  try clear hx102_1
                  try clear hx102_2
                  try clear hx102_3
                  try clear hx104_0
                  try clear hx104_1
                  try clear hx104_2
                  try clear hx104_3
                  try clear p102
                  try clear p104
                  try clear p2
                  try clear q102
                  try clear q104
                  obtain ⟨kq, x43_6, rfl, HA, HJ6, BK103, HB⟩ := hcut
                  cases kq with
                  | zero => exact absurd HA.out (by simp [fly_Check.j1])
                  | succ kj6 =>
                    have H := HA.out
                    clear HA
                    simp only [fly_Check.j1] at H
                    by_cases c20 : x43_6 = true
                    · subst c20
                      have H1 : (some 12) = some r := by rw [if_pos rfl] at H; exact H
                      clear H
                      have H := H1
                      clear H1
                      obtain rfl := Option.some.inj H
                      go_wp2
                      repeat (go_quiet (fail); try go_wp2)
                      go_ret
                      exact ⟨by first | rfl | (simp [errW_none, errW_some] <;> rfl) | (simp [*, errW_none, errW_some] <;> rfl), by repeat (first | (with_reducible first | exact HB.out | apply below_alloc | apply pw_below_drewN | apply below_drew1 | refine below_set ?_ GE103.out) | exact HB.out)⟩
                    · replace c20 := Bool.eq_false_iff.mpr c20
                      subst c20
                      have H1 : ((plane_Check.f ((rd_T49 l0 x16_1).f1.f0) ((rd_T49 l0 x16_1).f1.f1)).bind fun t105 => (if t105 = 0 then (if ((rd_T49 l0 x16_1).f2) < 0 then (some 4) else (if ((rd_T49 l0 x16_1).f2) > 60000 then (some 4) else (fly_Check.l0 kj6 l0 l0 (l0.length : Int) (wrap64 (x16_1 + 1))))) else (some t105))) = some r := by rw [if_neg (show ¬ (false = true) by decide)] at H; exact H
                      clear H
                      have H := H1
                      clear H1
                      replace H := Option.bind_eq_some_iff.mp H
                      obtain ⟨t105, A210, H⟩ := H
                      replace H : (if t105 = 0 then (if ((rd_T49 l0 x16_1).f2) < 0 then (some 4) else (if ((rd_T49 l0 x16_1).f2) > 60000 then (some 4) else (fly_Check.l0 kj6 l0 l0 (l0.length : Int) (wrap64 (x16_1 + 1))))) else (some t105)) = some r := H
                      have A21 := Aside0.mk A210
                      clear A210
                      by_cases c22 : t105 = 0
                      · rw [if_pos c22] at H
                        have c22b0 : (t105 == 0) = true := beq_iff_eq.mpr c22
                        have c22b1 : (t105 != 0) = false := bne_eq_false_iff_eq.mpr c22
                        clear c22
                        by_cases c23 : ((rd_T49 l0 x16_1).f2) < 0
                        · rw [if_pos c23] at H
                          have c23b0 : decide (((rd_T49 l0 x16_1).f2) < 0) = true := decide_eq_true c23
                          clear c23
                          obtain rfl := Option.some.inj H
                          have hcz24_0 : wc.cell? ⟨gb103, 0, none⟩ = some (.int .i64 ((rd_T49 l0 x16_1).f0)) := (blk_cell BK103.out 0).trans rfl
                          have hcz24_1 : wc.cell? ⟨gb103, 1, none⟩ = some (.int .i64 ((rd_T49 l0 x16_1).f1.f0)) := (blk_cell BK103.out 1).trans rfl
                          have hcz24_2 : wc.cell? ⟨gb103, 2, none⟩ = some (.int .i64 ((rd_T49 l0 x16_1).f1.f1)) := (blk_cell BK103.out 2).trans rfl
                          have hcz24_3 : wc.cell? ⟨gb103, 3, none⟩ = some (.int .i64 ((rd_T49 l0 x16_1).f2)) := (blk_cell BK103.out 3).trans rfl
                          have hfz24_0 := blk_frozen BK103.out 0
                          have hfz24_1 := blk_frozen BK103.out 1
                          have hfz24_2 := blk_frozen BK103.out 2
                          have hfz24_3 := blk_frozen BK103.out 3
                          go_wp2_with (first | (go_at_call 56; (with_reducible refine (plane_Check.calls ((rd_T49 l0 x16_1).f1.f0) ((rd_T49 l0 x16_1).f1.f1) t105 _ A21.out).mono ?_); rintro e w25 ⟨rfl, hb⟩; have n0_ := Aside0.mk (blk_below (g := gb103) (o := .cells #[.int .i64 ((rd_T49 l0 x16_1).f0), .int .i64 ((rd_T49 l0 x16_1).f1.f0), .int .i64 ((rd_T49 l0 x16_1).f1.f1), .int .i64 ((rd_T49 l0 x16_1).f2)] 49 (0, 0)) (by (with_reducible repeat (first | refine blk_drewN ?_ _ | refine blk_drew ?_ | refine blk_alloc ?_ _)); exact BK103.out) hb); have n1_ := Aside0.mk (below_step (by repeat (first | (with_reducible first | exact HB.out | apply below_alloc | apply pw_below_drewN | apply below_drew1 | refine below_set ?_ GE103.out) | exact HB.out)) hb); clear BK103; clear HB; have BK103 := n0_; have HB := n1_; clear n0_ n1_; (try clear hb); (try clear hb2); (try clear hk); (try clear hi); have hcz26_0 : w25.cell? ⟨gb103, 0, none⟩ = some (.int .i64 ((rd_T49 l0 x16_1).f0)) := (blk_cell BK103.out 0).trans rfl; have hcz26_1 : w25.cell? ⟨gb103, 1, none⟩ = some (.int .i64 ((rd_T49 l0 x16_1).f1.f0)) := (blk_cell BK103.out 1).trans rfl; have hcz26_2 : w25.cell? ⟨gb103, 2, none⟩ = some (.int .i64 ((rd_T49 l0 x16_1).f1.f1)) := (blk_cell BK103.out 2).trans rfl; have hcz26_3 : w25.cell? ⟨gb103, 3, none⟩ = some (.int .i64 ((rd_T49 l0 x16_1).f2)) := (blk_cell BK103.out 3).trans rfl; have hfz26_0 := blk_frozen BK103.out 0; have hfz26_1 := blk_frozen BK103.out 1; have hfz26_2 := blk_frozen BK103.out 2; have hfz26_3 := blk_frozen BK103.out 3))
                          repeat (go_quiet (first | (go_at_call 56; (with_reducible refine (plane_Check.calls ((rd_T49 l0 x16_1).f1.f0) ((rd_T49 l0 x16_1).f1.f1) t105 _ A21.out).mono ?_); rintro e w25 ⟨rfl, hb⟩; have n0_ := Aside0.mk (blk_below (g := gb103) (o := .cells #[.int .i64 ((rd_T49 l0 x16_1).f0), .int .i64 ((rd_T49 l0 x16_1).f1.f0), .int .i64 ((rd_T49 l0 x16_1).f1.f1), .int .i64 ((rd_T49 l0 x16_1).f2)] 49 (0, 0)) (by (with_reducible repeat (first | refine blk_drewN ?_ _ | refine blk_drew ?_ | refine blk_alloc ?_ _)); exact BK103.out) hb); have n1_ := Aside0.mk (below_step (by repeat (first | (with_reducible first | exact HB.out | apply below_alloc | apply pw_below_drewN | apply below_drew1 | refine below_set ?_ GE103.out) | exact HB.out)) hb); clear BK103; clear HB; have BK103 := n0_; have HB := n1_; clear n0_ n1_; (try clear hb); (try clear hb2); (try clear hk); (try clear hi); have hcz26_0 : w25.cell? ⟨gb103, 0, none⟩ = some (.int .i64 ((rd_T49 l0 x16_1).f0)) := (blk_cell BK103.out 0).trans rfl; have hcz26_1 : w25.cell? ⟨gb103, 1, none⟩ = some (.int .i64 ((rd_T49 l0 x16_1).f1.f0)) := (blk_cell BK103.out 1).trans rfl; have hcz26_2 : w25.cell? ⟨gb103, 2, none⟩ = some (.int .i64 ((rd_T49 l0 x16_1).f1.f1)) := (blk_cell BK103.out 2).trans rfl; have hcz26_3 : w25.cell? ⟨gb103, 3, none⟩ = some (.int .i64 ((rd_T49 l0 x16_1).f2)) := (blk_cell BK103.out 3).trans rfl; have hfz26_0 := blk_frozen BK103.out 0; have hfz26_1 := blk_frozen BK103.out 1; have hfz26_2 := blk_frozen BK103.out 2; have hfz26_3 := blk_frozen BK103.out 3)); try go_wp2_with (first | (go_at_call 56; (with_reducible refine (plane_Check.calls ((rd_T49 l0 x16_1).f1.f0) ((rd_T49 l0 x16_1).f1.f1) t105 _ A21.out).mono ?_); rintro e w25 ⟨rfl, hb⟩; have n0_ := Aside0.mk (blk_below (g := gb103) (o := .cells #[.int .i64 ((rd_T49 l0 x16_1).f0), .int .i64 ((rd_T49 l0 x16_1).f1.f0), .int .i64 ((rd_T49 l0 x16_1).f1.f1), .int .i64 ((rd_T49 l0 x16_1).f2)] 49 (0, 0)) (by (with_reducible repeat (first | refine blk_drewN ?_ _ | refine blk_drew ?_ | refine blk_alloc ?_ _)); exact BK103.out) hb); have n1_ := Aside0.mk (below_step (by repeat (first | (with_reducible first | exact HB.out | apply below_alloc | apply pw_below_drewN | apply below_drew1 | refine below_set ?_ GE103.out) | exact HB.out)) hb); clear BK103; clear HB; have BK103 := n0_; have HB := n1_; clear n0_ n1_; (try clear hb); (try clear hb2); (try clear hk); (try clear hi); have hcz26_0 : w25.cell? ⟨gb103, 0, none⟩ = some (.int .i64 ((rd_T49 l0 x16_1).f0)) := (blk_cell BK103.out 0).trans rfl; have hcz26_1 : w25.cell? ⟨gb103, 1, none⟩ = some (.int .i64 ((rd_T49 l0 x16_1).f1.f0)) := (blk_cell BK103.out 1).trans rfl; have hcz26_2 : w25.cell? ⟨gb103, 2, none⟩ = some (.int .i64 ((rd_T49 l0 x16_1).f1.f1)) := (blk_cell BK103.out 2).trans rfl; have hcz26_3 : w25.cell? ⟨gb103, 3, none⟩ = some (.int .i64 ((rd_T49 l0 x16_1).f2)) := (blk_cell BK103.out 3).trans rfl; have hfz26_0 := blk_frozen BK103.out 0; have hfz26_1 := blk_frozen BK103.out 1; have hfz26_2 := blk_frozen BK103.out 2; have hfz26_3 := blk_frozen BK103.out 3)))
                          go_ret
                          exact ⟨by first | rfl | (simp [errW_none, errW_some] <;> rfl) | (simp [*, errW_none, errW_some] <;> rfl), by repeat (first | (with_reducible first | exact HB.out | apply below_alloc | apply pw_below_drewN | apply below_drew1 | refine below_set ?_ GE103.out) | exact HB.out)⟩
                        · rw [if_neg c23] at H
                          have c23b0 : decide (((rd_T49 l0 x16_1).f2) < 0) = false := decide_eq_false c23
                          clear c23
                          by_cases c27 : ((rd_T49 l0 x16_1).f2) > 60000
                          · rw [if_pos c27] at H
                            have c27b0 : decide (60000 < ((rd_T49 l0 x16_1).f2)) = true := decide_eq_true c27
                            clear c27
                            obtain rfl := Option.some.inj H
                            have hcz28_0 : wc.cell? ⟨gb103, 0, none⟩ = some (.int .i64 ((rd_T49 l0 x16_1).f0)) := (blk_cell BK103.out 0).trans rfl
                            have hcz28_1 : wc.cell? ⟨gb103, 1, none⟩ = some (.int .i64 ((rd_T49 l0 x16_1).f1.f0)) := (blk_cell BK103.out 1).trans rfl
                            have hcz28_2 : wc.cell? ⟨gb103, 2, none⟩ = some (.int .i64 ((rd_T49 l0 x16_1).f1.f1)) := (blk_cell BK103.out 2).trans rfl
                            have hcz28_3 : wc.cell? ⟨gb103, 3, none⟩ = some (.int .i64 ((rd_T49 l0 x16_1).f2)) := (blk_cell BK103.out 3).trans rfl
                            have hfz28_0 := blk_frozen BK103.out 0
                            have hfz28_1 := blk_frozen BK103.out 1
                            have hfz28_2 := blk_frozen BK103.out 2
                            have hfz28_3 := blk_frozen BK103.out 3
                            go_wp2_with (first | (go_at_call 56; (with_reducible refine (plane_Check.calls ((rd_T49 l0 x16_1).f1.f0) ((rd_T49 l0 x16_1).f1.f1) t105 _ A21.out).mono ?_); rintro e w29 ⟨rfl, hb⟩; have n0_ := Aside0.mk (blk_below (g := gb103) (o := .cells #[.int .i64 ((rd_T49 l0 x16_1).f0), .int .i64 ((rd_T49 l0 x16_1).f1.f0), .int .i64 ((rd_T49 l0 x16_1).f1.f1), .int .i64 ((rd_T49 l0 x16_1).f2)] 49 (0, 0)) (by (with_reducible repeat (first | refine blk_drewN ?_ _ | refine blk_drew ?_ | refine blk_alloc ?_ _)); exact BK103.out) hb); have n1_ := Aside0.mk (below_step (by repeat (first | (with_reducible first | exact HB.out | apply below_alloc | apply pw_below_drewN | apply below_drew1 | refine below_set ?_ GE103.out) | exact HB.out)) hb); clear BK103; clear HB; have BK103 := n0_; have HB := n1_; clear n0_ n1_; (try clear hb); (try clear hb2); (try clear hk); (try clear hi); have hcz30_0 : w29.cell? ⟨gb103, 0, none⟩ = some (.int .i64 ((rd_T49 l0 x16_1).f0)) := (blk_cell BK103.out 0).trans rfl; have hcz30_1 : w29.cell? ⟨gb103, 1, none⟩ = some (.int .i64 ((rd_T49 l0 x16_1).f1.f0)) := (blk_cell BK103.out 1).trans rfl; have hcz30_2 : w29.cell? ⟨gb103, 2, none⟩ = some (.int .i64 ((rd_T49 l0 x16_1).f1.f1)) := (blk_cell BK103.out 2).trans rfl; have hcz30_3 : w29.cell? ⟨gb103, 3, none⟩ = some (.int .i64 ((rd_T49 l0 x16_1).f2)) := (blk_cell BK103.out 3).trans rfl; have hfz30_0 := blk_frozen BK103.out 0; have hfz30_1 := blk_frozen BK103.out 1; have hfz30_2 := blk_frozen BK103.out 2; have hfz30_3 := blk_frozen BK103.out 3))
                            repeat (go_quiet (first | (go_at_call 56; (with_reducible refine (plane_Check.calls ((rd_T49 l0 x16_1).f1.f0) ((rd_T49 l0 x16_1).f1.f1) t105 _ A21.out).mono ?_); rintro e w29 ⟨rfl, hb⟩; have n0_ := Aside0.mk (blk_below (g := gb103) (o := .cells #[.int .i64 ((rd_T49 l0 x16_1).f0), .int .i64 ((rd_T49 l0 x16_1).f1.f0), .int .i64 ((rd_T49 l0 x16_1).f1.f1), .int .i64 ((rd_T49 l0 x16_1).f2)] 49 (0, 0)) (by (with_reducible repeat (first | refine blk_drewN ?_ _ | refine blk_drew ?_ | refine blk_alloc ?_ _)); exact BK103.out) hb); have n1_ := Aside0.mk (below_step (by repeat (first | (with_reducible first | exact HB.out | apply below_alloc | apply pw_below_drewN | apply below_drew1 | refine below_set ?_ GE103.out) | exact HB.out)) hb); clear BK103; clear HB; have BK103 := n0_; have HB := n1_; clear n0_ n1_; (try clear hb); (try clear hb2); (try clear hk); (try clear hi); have hcz30_0 : w29.cell? ⟨gb103, 0, none⟩ = some (.int .i64 ((rd_T49 l0 x16_1).f0)) := (blk_cell BK103.out 0).trans rfl; have hcz30_1 : w29.cell? ⟨gb103, 1, none⟩ = some (.int .i64 ((rd_T49 l0 x16_1).f1.f0)) := (blk_cell BK103.out 1).trans rfl; have hcz30_2 : w29.cell? ⟨gb103, 2, none⟩ = some (.int .i64 ((rd_T49 l0 x16_1).f1.f1)) := (blk_cell BK103.out 2).trans rfl; have hcz30_3 : w29.cell? ⟨gb103, 3, none⟩ = some (.int .i64 ((rd_T49 l0 x16_1).f2)) := (blk_cell BK103.out 3).trans rfl; have hfz30_0 := blk_frozen BK103.out 0; have hfz30_1 := blk_frozen BK103.out 1; have hfz30_2 := blk_frozen BK103.out 2; have hfz30_3 := blk_frozen BK103.out 3)); try go_wp2_with (first | (go_at_call 56; (with_reducible refine (plane_Check.calls ((rd_T49 l0 x16_1).f1.f0) ((rd_T49 l0 x16_1).f1.f1) t105 _ A21.out).mono ?_); rintro e w29 ⟨rfl, hb⟩; have n0_ := Aside0.mk (blk_below (g := gb103) (o := .cells #[.int .i64 ((rd_T49 l0 x16_1).f0), .int .i64 ((rd_T49 l0 x16_1).f1.f0), .int .i64 ((rd_T49 l0 x16_1).f1.f1), .int .i64 ((rd_T49 l0 x16_1).f2)] 49 (0, 0)) (by (with_reducible repeat (first | refine blk_drewN ?_ _ | refine blk_drew ?_ | refine blk_alloc ?_ _)); exact BK103.out) hb); have n1_ := Aside0.mk (below_step (by repeat (first | (with_reducible first | exact HB.out | apply below_alloc | apply pw_below_drewN | apply below_drew1 | refine below_set ?_ GE103.out) | exact HB.out)) hb); clear BK103; clear HB; have BK103 := n0_; have HB := n1_; clear n0_ n1_; (try clear hb); (try clear hb2); (try clear hk); (try clear hi); have hcz30_0 : w29.cell? ⟨gb103, 0, none⟩ = some (.int .i64 ((rd_T49 l0 x16_1).f0)) := (blk_cell BK103.out 0).trans rfl; have hcz30_1 : w29.cell? ⟨gb103, 1, none⟩ = some (.int .i64 ((rd_T49 l0 x16_1).f1.f0)) := (blk_cell BK103.out 1).trans rfl; have hcz30_2 : w29.cell? ⟨gb103, 2, none⟩ = some (.int .i64 ((rd_T49 l0 x16_1).f1.f1)) := (blk_cell BK103.out 2).trans rfl; have hcz30_3 : w29.cell? ⟨gb103, 3, none⟩ = some (.int .i64 ((rd_T49 l0 x16_1).f2)) := (blk_cell BK103.out 3).trans rfl; have hfz30_0 := blk_frozen BK103.out 0; have hfz30_1 := blk_frozen BK103.out 1; have hfz30_2 := blk_frozen BK103.out 2; have hfz30_3 := blk_frozen BK103.out 3)))
                            go_ret
                            exact ⟨by first | rfl | (simp [errW_none, errW_some] <;> rfl) | (simp [*, errW_none, errW_some] <;> rfl), by repeat (first | (with_reducible first | exact HB.out | apply below_alloc | apply pw_below_drewN | apply below_drew1 | refine below_set ?_ GE103.out) | exact HB.out)⟩
                          · rw [if_neg c27] at H
                            have c27b0 : decide (60000 < ((rd_T49 l0 x16_1).f2)) = false := decide_eq_false c27
                            clear c27
                            have H' := Aside0.mk H
                            clear H
                            have hcz31_0 : wc.cell? ⟨gb103, 0, none⟩ = some (.int .i64 ((rd_T49 l0 x16_1).f0)) := (blk_cell BK103.out 0).trans rfl
                            have hcz31_1 : wc.cell? ⟨gb103, 1, none⟩ = some (.int .i64 ((rd_T49 l0 x16_1).f1.f0)) := (blk_cell BK103.out 1).trans rfl
                            have hcz31_2 : wc.cell? ⟨gb103, 2, none⟩ = some (.int .i64 ((rd_T49 l0 x16_1).f1.f1)) := (blk_cell BK103.out 2).trans rfl
                            have hcz31_3 : wc.cell? ⟨gb103, 3, none⟩ = some (.int .i64 ((rd_T49 l0 x16_1).f2)) := (blk_cell BK103.out 3).trans rfl
                            have hfz31_0 := blk_frozen BK103.out 0
                            have hfz31_1 := blk_frozen BK103.out 1
                            have hfz31_2 := blk_frozen BK103.out 2
                            have hfz31_3 := blk_frozen BK103.out 3
                            go_wp2_with (first | (go_at_call 56; (with_reducible refine (plane_Check.calls ((rd_T49 l0 x16_1).f1.f0) ((rd_T49 l0 x16_1).f1.f1) t105 _ A21.out).mono ?_); rintro e w32 ⟨rfl, hb⟩; have n0_ := Aside0.mk (blk_below (g := gb103) (o := .cells #[.int .i64 ((rd_T49 l0 x16_1).f0), .int .i64 ((rd_T49 l0 x16_1).f1.f0), .int .i64 ((rd_T49 l0 x16_1).f1.f1), .int .i64 ((rd_T49 l0 x16_1).f2)] 49 (0, 0)) (by (with_reducible repeat (first | refine blk_drewN ?_ _ | refine blk_drew ?_ | refine blk_alloc ?_ _)); exact BK103.out) hb); have n1_ := Aside0.mk (below_step (by repeat (first | (with_reducible first | exact HB.out | apply below_alloc | apply pw_below_drewN | apply below_drew1 | refine below_set ?_ GE103.out) | exact HB.out)) hb); clear BK103; clear HB; have BK103 := n0_; have HB := n1_; clear n0_ n1_; (try clear hb); (try clear hb2); (try clear hk); (try clear hi); have hcz33_0 : w32.cell? ⟨gb103, 0, none⟩ = some (.int .i64 ((rd_T49 l0 x16_1).f0)) := (blk_cell BK103.out 0).trans rfl; have hcz33_1 : w32.cell? ⟨gb103, 1, none⟩ = some (.int .i64 ((rd_T49 l0 x16_1).f1.f0)) := (blk_cell BK103.out 1).trans rfl; have hcz33_2 : w32.cell? ⟨gb103, 2, none⟩ = some (.int .i64 ((rd_T49 l0 x16_1).f1.f1)) := (blk_cell BK103.out 2).trans rfl; have hcz33_3 : w32.cell? ⟨gb103, 3, none⟩ = some (.int .i64 ((rd_T49 l0 x16_1).f2)) := (blk_cell BK103.out 3).trans rfl; have hfz33_0 := blk_frozen BK103.out 0; have hfz33_1 := blk_frozen BK103.out 1; have hfz33_2 := blk_frozen BK103.out 2; have hfz33_3 := blk_frozen BK103.out 3))
                            repeat (go_quiet (first | (go_at_call 56; (with_reducible refine (plane_Check.calls ((rd_T49 l0 x16_1).f1.f0) ((rd_T49 l0 x16_1).f1.f1) t105 _ A21.out).mono ?_); rintro e w32 ⟨rfl, hb⟩; have n0_ := Aside0.mk (blk_below (g := gb103) (o := .cells #[.int .i64 ((rd_T49 l0 x16_1).f0), .int .i64 ((rd_T49 l0 x16_1).f1.f0), .int .i64 ((rd_T49 l0 x16_1).f1.f1), .int .i64 ((rd_T49 l0 x16_1).f2)] 49 (0, 0)) (by (with_reducible repeat (first | refine blk_drewN ?_ _ | refine blk_drew ?_ | refine blk_alloc ?_ _)); exact BK103.out) hb); have n1_ := Aside0.mk (below_step (by repeat (first | (with_reducible first | exact HB.out | apply below_alloc | apply pw_below_drewN | apply below_drew1 | refine below_set ?_ GE103.out) | exact HB.out)) hb); clear BK103; clear HB; have BK103 := n0_; have HB := n1_; clear n0_ n1_; (try clear hb); (try clear hb2); (try clear hk); (try clear hi); have hcz33_0 : w32.cell? ⟨gb103, 0, none⟩ = some (.int .i64 ((rd_T49 l0 x16_1).f0)) := (blk_cell BK103.out 0).trans rfl; have hcz33_1 : w32.cell? ⟨gb103, 1, none⟩ = some (.int .i64 ((rd_T49 l0 x16_1).f1.f0)) := (blk_cell BK103.out 1).trans rfl; have hcz33_2 : w32.cell? ⟨gb103, 2, none⟩ = some (.int .i64 ((rd_T49 l0 x16_1).f1.f1)) := (blk_cell BK103.out 2).trans rfl; have hcz33_3 : w32.cell? ⟨gb103, 3, none⟩ = some (.int .i64 ((rd_T49 l0 x16_1).f2)) := (blk_cell BK103.out 3).trans rfl; have hfz33_0 := blk_frozen BK103.out 0; have hfz33_1 := blk_frozen BK103.out 1; have hfz33_2 := blk_frozen BK103.out 2; have hfz33_3 := blk_frozen BK103.out 3)); try go_wp2_with (first | (go_at_call 56; (with_reducible refine (plane_Check.calls ((rd_T49 l0 x16_1).f1.f0) ((rd_T49 l0 x16_1).f1.f1) t105 _ A21.out).mono ?_); rintro e w32 ⟨rfl, hb⟩; have n0_ := Aside0.mk (blk_below (g := gb103) (o := .cells #[.int .i64 ((rd_T49 l0 x16_1).f0), .int .i64 ((rd_T49 l0 x16_1).f1.f0), .int .i64 ((rd_T49 l0 x16_1).f1.f1), .int .i64 ((rd_T49 l0 x16_1).f2)] 49 (0, 0)) (by (with_reducible repeat (first | refine blk_drewN ?_ _ | refine blk_drew ?_ | refine blk_alloc ?_ _)); exact BK103.out) hb); have n1_ := Aside0.mk (below_step (by repeat (first | (with_reducible first | exact HB.out | apply below_alloc | apply pw_below_drewN | apply below_drew1 | refine below_set ?_ GE103.out) | exact HB.out)) hb); clear BK103; clear HB; have BK103 := n0_; have HB := n1_; clear n0_ n1_; (try clear hb); (try clear hb2); (try clear hk); (try clear hi); have hcz33_0 : w32.cell? ⟨gb103, 0, none⟩ = some (.int .i64 ((rd_T49 l0 x16_1).f0)) := (blk_cell BK103.out 0).trans rfl; have hcz33_1 : w32.cell? ⟨gb103, 1, none⟩ = some (.int .i64 ((rd_T49 l0 x16_1).f1.f0)) := (blk_cell BK103.out 1).trans rfl; have hcz33_2 : w32.cell? ⟨gb103, 2, none⟩ = some (.int .i64 ((rd_T49 l0 x16_1).f1.f1)) := (blk_cell BK103.out 2).trans rfl; have hcz33_3 : w32.cell? ⟨gb103, 3, none⟩ = some (.int .i64 ((rd_T49 l0 x16_1).f2)) := (blk_cell BK103.out 3).trans rfl; have hfz33_0 := blk_frozen BK103.out 0; have hfz33_1 := blk_frozen BK103.out 1; have hfz33_2 := blk_frozen BK103.out 2; have hfz33_3 := blk_frozen BK103.out 3)))
                            go_roundg kj6
                            case measure => have := HK1.out; have := HJ6.out; omega
                            case rel => exact ⟨(wrap64 (x16_1 + 1)), (by first | rfl | (simp; done) | (simp [*]; done)), H', ⟨by have := HK1.out; have := HJ6.out; omega⟩, ⟨by repeat (first | (with_reducible first | exact HB.out | apply below_alloc | apply pw_below_drewN | apply below_drew1 | refine below_set ?_ GE103.out) | exact HB.out)⟩⟩
                      · rw [if_neg c22] at H
                        have c22b0 : (t105 == 0) = false := beq_eq_false_iff_ne.mpr c22
                        have c22b1 : (t105 != 0) = true := bne_iff_ne.mpr c22
                        obtain rfl := Option.some.inj H
                        have hcz34_0 : wc.cell? ⟨gb103, 0, none⟩ = some (.int .i64 ((rd_T49 l0 x16_1).f0)) := (blk_cell BK103.out 0).trans rfl
                        have hcz34_1 : wc.cell? ⟨gb103, 1, none⟩ = some (.int .i64 ((rd_T49 l0 x16_1).f1.f0)) := (blk_cell BK103.out 1).trans rfl
                        have hcz34_2 : wc.cell? ⟨gb103, 2, none⟩ = some (.int .i64 ((rd_T49 l0 x16_1).f1.f1)) := (blk_cell BK103.out 2).trans rfl
                        have hcz34_3 : wc.cell? ⟨gb103, 3, none⟩ = some (.int .i64 ((rd_T49 l0 x16_1).f2)) := (blk_cell BK103.out 3).trans rfl
                        have hfz34_0 := blk_frozen BK103.out 0
                        have hfz34_1 := blk_frozen BK103.out 1
                        have hfz34_2 := blk_frozen BK103.out 2
                        have hfz34_3 := blk_frozen BK103.out 3
                        go_wp2_with (first | (go_at_call 56; (with_reducible refine (plane_Check.calls ((rd_T49 l0 x16_1).f1.f0) ((rd_T49 l0 x16_1).f1.f1) t105 _ A21.out).mono ?_); rintro e w35 ⟨rfl, hb⟩; have n0_ := Aside0.mk (blk_below (g := gb103) (o := .cells #[.int .i64 ((rd_T49 l0 x16_1).f0), .int .i64 ((rd_T49 l0 x16_1).f1.f0), .int .i64 ((rd_T49 l0 x16_1).f1.f1), .int .i64 ((rd_T49 l0 x16_1).f2)] 49 (0, 0)) (by (with_reducible repeat (first | refine blk_drewN ?_ _ | refine blk_drew ?_ | refine blk_alloc ?_ _)); exact BK103.out) hb); have n1_ := Aside0.mk (below_step (by repeat (first | (with_reducible first | exact HB.out | apply below_alloc | apply pw_below_drewN | apply below_drew1 | refine below_set ?_ GE103.out) | exact HB.out)) hb); clear BK103; clear HB; have BK103 := n0_; have HB := n1_; clear n0_ n1_; (try clear hb); (try clear hb2); (try clear hk); (try clear hi)))
                        repeat (go_quiet (first | (go_at_call 56; (with_reducible refine (plane_Check.calls ((rd_T49 l0 x16_1).f1.f0) ((rd_T49 l0 x16_1).f1.f1) t105 _ A21.out).mono ?_); rintro e w35 ⟨rfl, hb⟩; have n0_ := Aside0.mk (blk_below (g := gb103) (o := .cells #[.int .i64 ((rd_T49 l0 x16_1).f0), .int .i64 ((rd_T49 l0 x16_1).f1.f0), .int .i64 ((rd_T49 l0 x16_1).f1.f1), .int .i64 ((rd_T49 l0 x16_1).f2)] 49 (0, 0)) (by (with_reducible repeat (first | refine blk_drewN ?_ _ | refine blk_drew ?_ | refine blk_alloc ?_ _)); exact BK103.out) hb); have n1_ := Aside0.mk (below_step (by repeat (first | (with_reducible first | exact HB.out | apply below_alloc | apply pw_below_drewN | apply below_drew1 | refine below_set ?_ GE103.out) | exact HB.out)) hb); clear BK103; clear HB; have BK103 := n0_; have HB := n1_; clear n0_ n1_; (try clear hb); (try clear hb2); (try clear hk); (try clear hi))); try go_wp2_with (first | (go_at_call 56; (with_reducible refine (plane_Check.calls ((rd_T49 l0 x16_1).f1.f0) ((rd_T49 l0 x16_1).f1.f1) t105 _ A21.out).mono ?_); rintro e w35 ⟨rfl, hb⟩; have n0_ := Aside0.mk (blk_below (g := gb103) (o := .cells #[.int .i64 ((rd_T49 l0 x16_1).f0), .int .i64 ((rd_T49 l0 x16_1).f1.f0), .int .i64 ((rd_T49 l0 x16_1).f1.f1), .int .i64 ((rd_T49 l0 x16_1).f2)] 49 (0, 0)) (by (with_reducible repeat (first | refine blk_drewN ?_ _ | refine blk_drew ?_ | refine blk_alloc ?_ _)); exact BK103.out) hb); have n1_ := Aside0.mk (below_step (by repeat (first | (with_reducible first | exact HB.out | apply below_alloc | apply pw_below_drewN | apply below_drew1 | refine below_set ?_ GE103.out) | exact HB.out)) hb); clear BK103; clear HB; have BK103 := n0_; have HB := n1_; clear n0_ n1_; (try clear hb); (try clear hb2); (try clear hk); (try clear hi))))
                        go_ret
                        exact ⟨by first | rfl | (simp [errW_none, errW_some] <;> rfl) | (simp [*, errW_none, errW_some] <;> rfl), by repeat (first | (with_reducible first | exact HB.out | apply below_alloc | apply pw_below_drewN | apply below_drew1 | refine below_set ?_ GE103.out) | exact HB.out)⟩
              · rw [if_neg c6] at H
                exact absurd H (by simp)
            · rw [if_neg c5] at H
              exact absurd H (by simp)
          · rw [if_neg c4] at H
            have c4b0 : decide (x16_1 < (l0.length : Int)) = false := decide_eq_false c4
            clear c4
            obtain rfl := Option.some.inj H
            go_wp2
            repeat (go_quiet (fail); try go_wp2)
            go_ret
            exact ⟨by first | rfl | (simp [errW_none, errW_some] <;> rfl) | (simp [*, errW_none, errW_some] <;> rfl), by repeat (first | (with_reducible first | exact HB.out | apply below_alloc | apply pw_below_drewN | apply below_drew1) | exact HB.out)⟩

/-! ### num_DivDown: function 16 -/
def num_DivDown.j0 : Nat → Int → Int → Bool → Option (Int × Int)
  | 0, _, _, _ => none
  | k + 1, x0, x1, x10 => if x10 = true then (some (0, 2)) else (if x1 = 0 then (none) else (if (Int.tmod x0 x1) = 0 then (some (wrap64 (Int.tdiv x0 x1), 0)) else (if ((decide (x0 < 0)) != (decide (x1 < 0))) = true then (some (wrap64 ((wrap64 (Int.tdiv x0 x1)) - 1), 0)) else (some (wrap64 (Int.tdiv x0 x1), 0)))))
def num_DivDown.f (k : Nat) (a0 : Int) (a1 : Int) : Option (Int × Int) := if a1 = 0 then (some (0, 10)) else (if a0 = (-9223372036854775808) then (num_DivDown.j0 k a0 a1 (a1 == (-1))) else (num_DivDown.j0 k a0 a1 false))
theorem num_DivDown.mono_l : ∀ k, (∀ y0 y1 y2, LeO (num_DivDown.j0 k y0 y1 y2) (num_DivDown.j0 (k + 1) y0 y1 y2))
  | 0 => fun _ _ _ r h => by simp [num_DivDown.j0] at h
  | k + 1 => by
    have ih0 := num_DivDown.mono_l k
    · intro y0 y1 y2
      unfold num_DivDown.j0
      repeat' first
      | (with_reducible exact ih0 _ _ _)
      | (with_reducible exact LeO.refl _)
      | (with_reducible exact LeO.none _)
      | (with_reducible refine LeO.ite ?_ ?_)
      | (with_reducible refine LeO.bind ?_ (fun _ => ?_))
      | exact ih0 _ _ _
      | exact LeO.none _
      | refine LeO.ite ?_ ?_
      | refine LeO.bind ?_ (fun _ => ?_)
theorem num_DivDown.mono : ∀ a0 a1 k, LeO (num_DivDown.f k a0 a1) (num_DivDown.f (k + 1) a0 a1) := by
  intro a0 a1 k
  have ih0 := num_DivDown.mono_l k
  unfold num_DivDown.f
  repeat' first
      | (with_reducible exact ih0 _ _ _)
      | (with_reducible exact LeO.refl _)
      | (with_reducible exact LeO.none _)
      | (with_reducible refine LeO.ite ?_ ?_)
      | (with_reducible refine LeO.bind ?_ (fun _ => ?_))
      | exact ih0 _ _ _
      | exact LeO.none _
      | refine LeO.ite ?_ ?_
      | refine LeO.bind ?_ (fun _ => ?_)
set_option maxHeartbeats 8000000 in
set_option maxRecDepth 100000 in
theorem num_DivDown.calls (k : Nat) (a0 : Int) (a1 : Int) (r1 : Int) (r2 : Int) (w : World) (h : num_DivDown.f k a0 a1 = some (r1, r2)) :
    Calls Try.prog 16 #[.int .i64 a0, .int .i64 a1] w fun e w' => e = .returned (.tuple #[.int .i64 r1, .int .i64 r2]) ∧ Below w.heap.size w w' := by
 have HB := Aside0.mk (Below.refl w.heap.size w)
 have H : (if a1 = 0 then (some (0, 10)) else (if a0 = (-9223372036854775808) then (num_DivDown.j0 k a0 a1 (a1 == (-1))) else (num_DivDown.j0 k a0 a1 false))) = some (r1, r2) := h
 clear h
 by_cases c3 : a1 = 0
 · rw [if_pos c3] at H
   have c3b0 : (a1 == 0) = true := beq_iff_eq.mpr c3
   have c3b1 : (a1 != 0) = false := bne_eq_false_iff_eq.mpr c3
   clear c3
   simp only [Option.some.injEq, Prod.mk.injEq] at H
   obtain ⟨rfl, rfl⟩ := H
   go_enter Try.func16, Try.ntmps16
   go_wp2
   go_ret2
   exact ⟨by first | rfl | (simp [errW_none, errW_some] <;> rfl) | (simp [*, errW_none, errW_some] <;> rfl), by repeat (first | (with_reducible first | exact HB.out | apply below_alloc | apply pw_below_drewN | apply below_drew1) | exact HB.out)⟩
 · rw [if_neg c3] at H
   have c3b0 : (a1 == 0) = false := beq_eq_false_iff_ne.mpr c3
   have c3b1 : (a1 != 0) = true := bne_iff_ne.mpr c3
   have HC4 := Aside0.mk H
   clear H
   go_enter Try.func16, Try.ntmps16
   go_upto_region 3 with (fail)
   go_cut [10] (fun v10 wc => ∃ (kq : Nat) (x10_3 : Bool), v10 = .bool x10_3 ∧ Aside0 (num_DivDown.j0 kq a0 a1 x10_3 = some (r1, r2)) ∧ Aside0 (kq ≤ k) ∧ Aside0 (Below w.heap.size w wc))
   case first =>
    have H := HC4.out
    clear HC4
    by_cases c5 : a0 = (-9223372036854775808)
    · rw [if_pos c5] at H
      have c5b0 : (a0 == (-9223372036854775808)) = true := beq_iff_eq.mpr c5
      have c5b1 : (a0 != (-9223372036854775808)) = false := bne_eq_false_iff_eq.mpr c5
      clear c5
      (first | rw [c5b0] | (simp only [i64_w, i32_w]; rw [c5b0]) | skip)
      have H' := Aside0.mk H
      clear H
      go_wp2
      go_meet
      case rel => exact ⟨_, ((a1 == (-1))), (by first | rfl | (simp; done) | (simp [*]; done)), H', ⟨by first | omega | exact Nat.le_refl _⟩, ⟨by repeat (first | (with_reducible first | exact HB.out | apply below_alloc | apply pw_below_drewN | apply below_drew1) | exact HB.out)⟩⟩
    · rw [if_neg c5] at H
      have c5b0 : (a0 == (-9223372036854775808)) = false := beq_eq_false_iff_ne.mpr c5
      have c5b1 : (a0 != (-9223372036854775808)) = true := bne_iff_ne.mpr c5
      (first | rw [c5b0] | (simp only [i64_w, i32_w]; rw [c5b0]) | skip)
      have H' := Aside0.mk H
      clear H
      go_wp2
      go_meet
      case rel => exact ⟨_, (false), (by first | rfl | (simp; done) | (simp [*]; done)), H', ⟨by first | omega | exact Nat.le_refl _⟩, ⟨by repeat (first | (with_reducible first | exact HB.out | apply below_alloc | apply pw_below_drewN | apply below_drew1) | exact HB.out)⟩⟩
   case rest =>
    clear HC4
    (try clear c1); (try clear p2); (try clear c3); (try clear c3b0); (try clear c3b1); (try clear c5); (try clear c5b0); (try clear c5b1)
    obtain ⟨kq, x10_3, rfl, HA, HJ3, HB⟩ := hcut
    cases kq with
    | zero => exact absurd HA.out (by simp [num_DivDown.j0])
    | succ kj3 =>
     have H := HA.out
     clear HA
     simp only [num_DivDown.j0] at H
     by_cases c6 : x10_3 = true
     · subst c6
       have H1 : (some (0, 2)) = some (r1, r2) := by rw [if_pos rfl] at H; exact H
       clear H
       have H := H1
       clear H1
       simp only [Option.some.injEq, Prod.mk.injEq] at H
       obtain ⟨rfl, rfl⟩ := H
       go_wp2
       go_ret2
       exact ⟨by first | rfl | (simp [errW_none, errW_some] <;> rfl) | (simp [*, errW_none, errW_some] <;> rfl), by repeat (first | (with_reducible first | exact HB.out | apply below_alloc | apply pw_below_drewN | apply below_drew1) | exact HB.out)⟩
     · replace c6 := Bool.eq_false_iff.mpr c6
       subst c6
       have H1 : (if a1 = 0 then (none) else (if (Int.tmod a0 a1) = 0 then (some (wrap64 (Int.tdiv a0 a1), 0)) else (if ((decide (a0 < 0)) != (decide (a1 < 0))) = true then (some (wrap64 ((wrap64 (Int.tdiv a0 a1)) - 1), 0)) else (some (wrap64 (Int.tdiv a0 a1), 0))))) = some (r1, r2) := by rw [if_neg (show ¬ (false = true) by decide)] at H; exact H
       clear H
       have H := H1
       clear H1
       by_cases c7 : a1 = 0
       · rw [if_pos c7] at H
         exact absurd H (by simp)
       · rw [if_neg c7] at H
         have c7b0 : (a1 == 0) = false := beq_eq_false_iff_ne.mpr c7
         have c7b1 : (a1 != 0) = true := bne_iff_ne.mpr c7
         by_cases c8 : (Int.tmod a0 a1) = 0
         · rw [if_pos c8] at H
           have c8b0 : ((Int.tmod a0 a1) == 0) = true := beq_iff_eq.mpr c8
           have c8b1 : ((Int.tmod a0 a1) != 0) = false := bne_eq_false_iff_eq.mpr c8
           clear c8
           simp only [Option.some.injEq, Prod.mk.injEq] at H
           obtain ⟨rfl, rfl⟩ := H
           go_wp2
           go_ret2
           exact ⟨by first | rfl | (simp [errW_none, errW_some] <;> rfl) | (simp [*, errW_none, errW_some] <;> rfl), by repeat (first | (with_reducible first | exact HB.out | apply below_alloc | apply pw_below_drewN | apply below_drew1) | exact HB.out)⟩
         · rw [if_neg c8] at H
           have c8b0 : ((Int.tmod a0 a1) == 0) = false := beq_eq_false_iff_ne.mpr c8
           have c8b1 : ((Int.tmod a0 a1) != 0) = true := bne_iff_ne.mpr c8
           by_cases c9 : ((decide (a0 < 0)) != (decide (a1 < 0))) = true
           · rw [if_pos c9] at H
             have c9b0 : ((decide (a0 < 0)) != (decide (a1 < 0))) = true := c9
             (try (have c9b1 : decide ((decide (a0 < 0)) = (decide (a1 < 0))) = false := by simpa using c9))
             (try (have c9b2 : ((decide (a0 < 0)) == (decide (a1 < 0))) = false := by simpa using c9))
             (try (have c9b3 : ¬ ((decide (a0 < 0)) = (decide (a1 < 0))) := by simpa using c9))
             clear c9
             simp only [Option.some.injEq, Prod.mk.injEq] at H
             obtain ⟨rfl, rfl⟩ := H
             go_wp2
             go_ret2
             exact ⟨by first | rfl | (simp [errW_none, errW_some] <;> rfl) | (simp [*, errW_none, errW_some] <;> rfl), by repeat (first | (with_reducible first | exact HB.out | apply below_alloc | apply pw_below_drewN | apply below_drew1) | exact HB.out)⟩
           · rw [if_neg c9] at H
             have c9b0 : ((decide (a0 < 0)) != (decide (a1 < 0))) = false := by simpa using c9
             (try (have c9b1 : decide ((decide (a0 < 0)) = (decide (a1 < 0))) = true := by simpa using c9))
             (try (have c9b2 : ((decide (a0 < 0)) == (decide (a1 < 0))) = true := by simpa using c9))
             clear c9
             simp only [Option.some.injEq, Prod.mk.injEq] at H
             obtain ⟨rfl, rfl⟩ := H
             go_wp2
             go_ret2
             exact ⟨by first | rfl | (simp [errW_none, errW_some] <;> rfl) | (simp [*, errW_none, errW_some] <;> rfl), by repeat (first | (with_reducible first | exact HB.out | apply below_alloc | apply pw_below_drewN | apply below_drew1) | exact HB.out)⟩

end Go.Proofs.Ytaahnfajcbkknaa.PFlyShifts
