/- Made by a program of this session (wip/tools/myprint.py, over the kit's printer): that the Go functions answer as the Lean functions printed beside them. -/
import Derived.Test.YteaddpieonkboaaPMotionFirstx0
import Derived.Test.YteaddpieonkboaaPMotionFirstx3
import Derived.Test.YteaddpieonkboaaPMotionFirstx4
namespace Go.Proofs.Yteaddpieonkboaa.PMotionFirst
open Go.RowKit Go.Proofs.YteaddpieonkboaaW.PrintWords Go.Proofs.YteaddpieonkboaaW.PrintLast Go.Proofs.YteaddpieonkboaaW.PrintMore
attribute [local go_sem] max2_int min2_int max_two min_two max_three min_three max_four min_four   -- for this text's walks alone
set_option linter.unusedVariables false
set_option linter.unusedSimpArgs false

/-! ### skywaykeep1_MotionFirst: function 8 -/
def skywaykeep1_MotionFirst.j0 : Nat → Int → Int → Int → Int → Int → Bool → Option (Bool)
  | 0, _, _, _, _, _, _ => none
  | k + 1, x2, x7, x8, x9, x10, x41 => if x41 = true then (if x7 = 0 then (some (x8 != 0)) else (some false)) else (if x8 = 8 then (if x7 = 0 then (some (decide (x9 ≥ (wrap64 (x2 * x2))))) else (some false)) else (if x8 = 0 then (if x9 < (wrap64 (x2 * x2)) then (some (decide (x7 ≤ x10))) else (some false)) else (some false)))
def skywaykeep1_MotionFirst.f (k : Nat) (a0_0 : Int) (a0_1 : Int) (a0_2 : Int) (a0_3 : Int) (a0_4 : Int) (a0_5 : Int) (a1_0 : Int) (a1_1 : Int) (a1_2 : Int) (a1_3 : Int) (a1_4 : Int) (a1_5 : Int) (a2 : Int) : Option (Bool) := (skywaykeep1_short.f a0_0 a0_1 a0_2 a0_3 a0_4 a0_5).bind fun bt172 => ((skywaykeep1_short.f a1_0 a1_1 a1_2 a1_3 a1_4 a1_5).bind fun bt178 => ((skywaykeep1_motionWorks.f k).bind fun t184 => (if t184 = true then ((motion_First.f k bt172.1 bt172.2.1 bt172.2.2.1 bt172.2.2.2.1 bt172.2.2.2.2.1 bt172.2.2.2.2.2 bt178.1 bt178.2.1 bt178.2.2.1 bt178.2.2.2.1 bt178.2.2.2.2.1 bt178.2.2.2.2.2 a2).bind fun bt185 => ((motion_Least.f k bt172.1 bt172.2.1 bt172.2.2.1 bt172.2.2.2.1 bt172.2.2.2.2.1 bt172.2.2.2.2.2 bt178.1 bt178.2.1 bt178.2.2.1 bt178.2.2.2.1 bt178.2.2.2.2.1 bt178.2.2.2.2.2).bind fun bt187 => (if a2 < 0 then (skywaykeep1_MotionFirst.j0 k a2 bt185.1 bt185.2 bt187.1 bt187.2.1 true) else (if a2 > 1000000 then (skywaykeep1_MotionFirst.j0 k a2 bt185.1 bt185.2 bt187.1 bt187.2.1 true) else (skywaykeep1_MotionFirst.j0 k a2 bt185.1 bt185.2 bt187.1 bt187.2.1 (bt187.2.2 != 0)))))) else (some false))))
theorem skywaykeep1_MotionFirst.mono_l : ∀ k, (∀ y0 y1 y2 y3 y4 y5, LeO (skywaykeep1_MotionFirst.j0 k y0 y1 y2 y3 y4 y5) (skywaykeep1_MotionFirst.j0 (k + 1) y0 y1 y2 y3 y4 y5))
  | 0 => fun _ _ _ _ _ _ r h => by simp [skywaykeep1_MotionFirst.j0] at h
  | k + 1 => by
    have ih0 := skywaykeep1_MotionFirst.mono_l k
    · intro y0 y1 y2 y3 y4 y5
      unfold skywaykeep1_MotionFirst.j0
      repeat' first
      | (with_reducible exact ih0 _ _ _ _ _ _)
      | (with_reducible exact motion_First.mono _ _ _ _ _ _ _ _ _ _ _ _ _ _)
      | (with_reducible exact motion_Least.mono _ _ _ _ _ _ _ _ _ _ _ _ _)
      | (with_reducible exact skywaykeep1_motionWorks.mono _)
      | (with_reducible exact LeO.refl _)
      | (with_reducible exact LeO.none _)
      | (with_reducible refine LeO.ite ?_ ?_)
      | (with_reducible refine LeO.bind ?_ (fun _ => ?_))
      | exact ih0 _ _ _ _ _ _
      | exact motion_First.mono _ _ _ _ _ _ _ _ _ _ _ _ _ _
      | exact motion_Least.mono _ _ _ _ _ _ _ _ _ _ _ _ _
      | exact skywaykeep1_motionWorks.mono _
      | exact LeO.none _
      | refine LeO.ite ?_ ?_
      | refine LeO.bind ?_ (fun _ => ?_)
theorem skywaykeep1_MotionFirst.mono : ∀ a0 a1 a2 a3 a4 a5 a6 a7 a8 a9 a10 a11 a12 k, LeO (skywaykeep1_MotionFirst.f k a0 a1 a2 a3 a4 a5 a6 a7 a8 a9 a10 a11 a12) (skywaykeep1_MotionFirst.f (k + 1) a0 a1 a2 a3 a4 a5 a6 a7 a8 a9 a10 a11 a12) := by
  intro a0 a1 a2 a3 a4 a5 a6 a7 a8 a9 a10 a11 a12 k
  have ih0 := skywaykeep1_MotionFirst.mono_l k
  unfold skywaykeep1_MotionFirst.f
  repeat' first
      | (with_reducible exact ih0 _ _ _ _ _ _)
      | (with_reducible exact motion_First.mono _ _ _ _ _ _ _ _ _ _ _ _ _ _)
      | (with_reducible exact motion_Least.mono _ _ _ _ _ _ _ _ _ _ _ _ _)
      | (with_reducible exact skywaykeep1_motionWorks.mono _)
      | (with_reducible exact LeO.refl _)
      | (with_reducible exact LeO.none _)
      | (with_reducible refine LeO.ite ?_ ?_)
      | (with_reducible refine LeO.bind ?_ (fun _ => ?_))
      | exact ih0 _ _ _ _ _ _
      | exact motion_First.mono _ _ _ _ _ _ _ _ _ _ _ _ _ _
      | exact motion_Least.mono _ _ _ _ _ _ _ _ _ _ _ _ _
      | exact skywaykeep1_motionWorks.mono _
      | exact LeO.none _
      | refine LeO.ite ?_ ?_
      | refine LeO.bind ?_ (fun _ => ?_)
set_option maxHeartbeats 8000000 in
set_option maxRecDepth 100000 in
theorem skywaykeep1_MotionFirst.calls (k : Nat) (a0_0 : Int) (a0_1 : Int) (a0_2 : Int) (a0_3 : Int) (a0_4 : Int) (a0_5 : Int) (a1_0 : Int) (a1_1 : Int) (a1_2 : Int) (a1_3 : Int) (a1_4 : Int) (a1_5 : Int) (a2 : Int) (r : Bool) (w : World) (h : skywaykeep1_MotionFirst.f k a0_0 a0_1 a0_2 a0_3 a0_4 a0_5 a1_0 a1_1 a1_2 a1_3 a1_4 a1_5 a2 = some r) :
    Calls Try.prog 8 #[.agg #[.int .i64 a0_0, .int .i64 a0_1, .int .i64 a0_2, .int .i64 a0_3, .int .i64 a0_4, .int .i64 a0_5], .agg #[.int .i64 a1_0, .int .i64 a1_1, .int .i64 a1_2, .int .i64 a1_3, .int .i64 a1_4, .int .i64 a1_5], .int .i64 a2] w fun e w' => e = .returned (.bool r) ∧ Below w.heap.size w w' := by
 have hu36 := Try.underlying36
 have HB := Aside0.mk (Below.refl w.heap.size w)
 have H : ((skywaykeep1_short.f a0_0 a0_1 a0_2 a0_3 a0_4 a0_5).bind fun bt172 => ((skywaykeep1_short.f a1_0 a1_1 a1_2 a1_3 a1_4 a1_5).bind fun bt178 => ((skywaykeep1_motionWorks.f k).bind fun t184 => (if t184 = true then ((motion_First.f k bt172.1 bt172.2.1 bt172.2.2.1 bt172.2.2.2.1 bt172.2.2.2.2.1 bt172.2.2.2.2.2 bt178.1 bt178.2.1 bt178.2.2.1 bt178.2.2.2.1 bt178.2.2.2.2.1 bt178.2.2.2.2.2 a2).bind fun bt185 => ((motion_Least.f k bt172.1 bt172.2.1 bt172.2.2.1 bt172.2.2.2.1 bt172.2.2.2.2.1 bt172.2.2.2.2.2 bt178.1 bt178.2.1 bt178.2.2.1 bt178.2.2.2.1 bt178.2.2.2.2.1 bt178.2.2.2.2.2).bind fun bt187 => (if a2 < 0 then (skywaykeep1_MotionFirst.j0 k a2 bt185.1 bt185.2 bt187.1 bt187.2.1 true) else (if a2 > 1000000 then (skywaykeep1_MotionFirst.j0 k a2 bt185.1 bt185.2 bt187.1 bt187.2.1 true) else (skywaykeep1_MotionFirst.j0 k a2 bt185.1 bt185.2 bt187.1 bt187.2.1 (bt187.2.2 != 0)))))) else (some false))))) = some r := h
 clear h
 replace H := Option.bind_eq_some_iff.mp H
 obtain ⟨⟨t172, t173, t174, t175, t176, t177⟩, A40, H⟩ := H
 replace H : ((skywaykeep1_short.f a1_0 a1_1 a1_2 a1_3 a1_4 a1_5).bind fun bt178 => ((skywaykeep1_motionWorks.f k).bind fun t184 => (if t184 = true then ((motion_First.f k t172 t173 t174 t175 t176 t177 bt178.1 bt178.2.1 bt178.2.2.1 bt178.2.2.2.1 bt178.2.2.2.2.1 bt178.2.2.2.2.2 a2).bind fun bt185 => ((motion_Least.f k t172 t173 t174 t175 t176 t177 bt178.1 bt178.2.1 bt178.2.2.1 bt178.2.2.2.1 bt178.2.2.2.2.1 bt178.2.2.2.2.2).bind fun bt187 => (if a2 < 0 then (skywaykeep1_MotionFirst.j0 k a2 bt185.1 bt185.2 bt187.1 bt187.2.1 true) else (if a2 > 1000000 then (skywaykeep1_MotionFirst.j0 k a2 bt185.1 bt185.2 bt187.1 bt187.2.1 true) else (skywaykeep1_MotionFirst.j0 k a2 bt185.1 bt185.2 bt187.1 bt187.2.1 (bt187.2.2 != 0)))))) else (some false)))) = some r := H
 have A4 := Aside0.mk A40
 clear A40
 replace H := Option.bind_eq_some_iff.mp H
 obtain ⟨⟨t178, t179, t180, t181, t182, t183⟩, A50, H⟩ := H
 replace H : ((skywaykeep1_motionWorks.f k).bind fun t184 => (if t184 = true then ((motion_First.f k t172 t173 t174 t175 t176 t177 t178 t179 t180 t181 t182 t183 a2).bind fun bt185 => ((motion_Least.f k t172 t173 t174 t175 t176 t177 t178 t179 t180 t181 t182 t183).bind fun bt187 => (if a2 < 0 then (skywaykeep1_MotionFirst.j0 k a2 bt185.1 bt185.2 bt187.1 bt187.2.1 true) else (if a2 > 1000000 then (skywaykeep1_MotionFirst.j0 k a2 bt185.1 bt185.2 bt187.1 bt187.2.1 true) else (skywaykeep1_MotionFirst.j0 k a2 bt185.1 bt185.2 bt187.1 bt187.2.1 (bt187.2.2 != 0)))))) else (some false))) = some r := H
 have A5 := Aside0.mk A50
 clear A50
 replace H := Option.bind_eq_some_iff.mp H
 obtain ⟨t184, A60, H⟩ := H
 replace H : (if t184 = true then ((motion_First.f k t172 t173 t174 t175 t176 t177 t178 t179 t180 t181 t182 t183 a2).bind fun bt185 => ((motion_Least.f k t172 t173 t174 t175 t176 t177 t178 t179 t180 t181 t182 t183).bind fun bt187 => (if a2 < 0 then (skywaykeep1_MotionFirst.j0 k a2 bt185.1 bt185.2 bt187.1 bt187.2.1 true) else (if a2 > 1000000 then (skywaykeep1_MotionFirst.j0 k a2 bt185.1 bt185.2 bt187.1 bt187.2.1 true) else (skywaykeep1_MotionFirst.j0 k a2 bt185.1 bt185.2 bt187.1 bt187.2.1 (bt187.2.2 != 0)))))) else (some false)) = some r := H
 have A6 := Aside0.mk A60
 clear A60
 by_cases c7 : t184 = true
 · subst c7
   have H1 : ((motion_First.f k t172 t173 t174 t175 t176 t177 t178 t179 t180 t181 t182 t183 a2).bind fun bt185 => ((motion_Least.f k t172 t173 t174 t175 t176 t177 t178 t179 t180 t181 t182 t183).bind fun bt187 => (if a2 < 0 then (skywaykeep1_MotionFirst.j0 k a2 bt185.1 bt185.2 bt187.1 bt187.2.1 true) else (if a2 > 1000000 then (skywaykeep1_MotionFirst.j0 k a2 bt185.1 bt185.2 bt187.1 bt187.2.1 true) else (skywaykeep1_MotionFirst.j0 k a2 bt185.1 bt185.2 bt187.1 bt187.2.1 (bt187.2.2 != 0)))))) = some r := by rw [if_pos rfl] at H; exact H
   clear H
   have H := H1
   clear H1
   replace H := Option.bind_eq_some_iff.mp H
   obtain ⟨⟨t185, t186⟩, A80, H⟩ := H
   replace H : ((motion_Least.f k t172 t173 t174 t175 t176 t177 t178 t179 t180 t181 t182 t183).bind fun bt187 => (if a2 < 0 then (skywaykeep1_MotionFirst.j0 k a2 t185 t186 bt187.1 bt187.2.1 true) else (if a2 > 1000000 then (skywaykeep1_MotionFirst.j0 k a2 t185 t186 bt187.1 bt187.2.1 true) else (skywaykeep1_MotionFirst.j0 k a2 t185 t186 bt187.1 bt187.2.1 (bt187.2.2 != 0))))) = some r := H
   have A8 := Aside0.mk A80
   clear A80
   replace H := Option.bind_eq_some_iff.mp H
   obtain ⟨⟨t187, t188, t189⟩, A90, H⟩ := H
   replace H : (if a2 < 0 then (skywaykeep1_MotionFirst.j0 k a2 t185 t186 t187 t188 true) else (if a2 > 1000000 then (skywaykeep1_MotionFirst.j0 k a2 t185 t186 t187 t188 true) else (skywaykeep1_MotionFirst.j0 k a2 t185 t186 t187 t188 (t189 != 0)))) = some r := H
   have A9 := Aside0.mk A90
   clear A90
   have HC10 := Aside0.mk H
   clear H
   go_enter Try.func8, Try.ntmps8
   try go_wp2_with (first | ((with_reducible refine gate_dst (N := 3) rfl ?_); refine box_event ?hg (N := 3) ?hd (cs := #[.int .i64 a0_0, .int .i64 a0_1, .int .i64 a0_2, .int .i64 a0_3, .int .i64 a0_4, .int .i64 a0_5]) (t := 36) ?hr ?_; (case hd => rfl); (case hg => rfl); (case hr => first | (go_simp; done) | (go_simp; rfl)); intro gb170 hg wx257f1 hbox hb; have n0_ := Aside0.mk (below_step (by repeat (first | (with_reducible first | exact HB.out | apply below_alloc | apply pw_below_drewN | apply below_drew1) | exact HB.out)) hb); have n1_ := Aside0.mk (hbox); have n2_ := Aside0.mk ((by rw [hg]; exact (below_size (by repeat (first | (with_reducible first | exact HB.out | apply below_alloc | apply pw_below_drewN | apply below_drew1) | exact HB.out))) : w.heap.size ≤ gb170)); have n3_ := Aside0.mk ((by rw [hg]; exact (below_size (by repeat (first | (with_reducible first | exact HB.out | apply below_alloc | apply pw_below_drewN | apply below_drew1) | exact HB.out))) : w.heap.size ≤ gb170)); clear HB; have HB := n0_; have BK170 := n1_; have GW170 := n2_; have GE170 := n3_; clear n0_ n1_ n2_ n3_; clear hb hbox hg) | ((with_reducible refine gate_dst (N := 4) rfl ?_); refine box_event ?hg (N := 4) ?hd (cs := #[.int .i64 a1_0, .int .i64 a1_1, .int .i64 a1_2, .int .i64 a1_3, .int .i64 a1_4, .int .i64 a1_5]) (t := 36) ?hr ?_; (case hd => rfl); (case hg => rfl); (case hr => first | (go_simp; done) | (go_simp; rfl)); intro gb171 hg wx0d471 hbox hb; have n0_ := Aside0.mk (blk_below (g := gb170) (o := .cells #[.int .i64 a0_0, .int .i64 a0_1, .int .i64 a0_2, .int .i64 a0_3, .int .i64 a0_4, .int .i64 a0_5] 36 (0, 0)) (by (with_reducible repeat (first | refine blk_drewN ?_ _ | refine blk_drew ?_ | refine blk_alloc ?_ _)); exact BK170.out) hb); have n1_ := Aside0.mk (below_step (by repeat (first | (with_reducible first | exact HB.out | apply below_alloc | apply pw_below_drewN | apply below_drew1 | refine below_set ?_ GE170.out) | exact HB.out)) hb); have n2_ := Aside0.mk (hbox); have n3_ := Aside0.mk ((by rw [hg]; exact (below_size (by repeat (first | (with_reducible first | exact HB.out | apply below_alloc | apply pw_below_drewN | apply below_drew1 | refine below_set ?_ GE170.out) | exact HB.out))) : w.heap.size ≤ gb171)); have n4_ := Aside0.mk ((by rw [hg]; exact (below_size (by repeat (first | (with_reducible first | exact HB.out | apply below_alloc | apply pw_below_drewN | apply below_drew1 | refine below_set ?_ GE170.out) | exact HB.out))) : w.heap.size ≤ gb171)); have n5_ := Aside0.mk ((by rw [hg]; exact Nat.ne_of_lt (blk_lt (g := gb170) (o := .cells #[.int .i64 a0_0, .int .i64 a0_1, .int .i64 a0_2, .int .i64 a0_3, .int .i64 a0_4, .int .i64 a0_5] 36 (0, 0)) (by (with_reducible repeat (first | refine blk_drewN ?_ _ | refine blk_drew ?_ | refine blk_alloc ?_ _)); exact BK170.out)) : gb170 ≠ gb171)); have n6_ := Aside0.mk ((by rw [hg]; exact Nat.ne_of_gt (blk_lt (g := gb170) (o := .cells #[.int .i64 a0_0, .int .i64 a0_1, .int .i64 a0_2, .int .i64 a0_3, .int .i64 a0_4, .int .i64 a0_5] 36 (0, 0)) (by (with_reducible repeat (first | refine blk_drewN ?_ _ | refine blk_drew ?_ | refine blk_alloc ?_ _)); exact BK170.out)) : gb171 ≠ gb170)); clear BK170; clear HB; have BK170 := n0_; have HB := n1_; have BK171 := n2_; have GW171 := n3_; have GE171 := n4_; have NB170_171 := n5_; have NB171_170 := n6_; clear n0_ n1_ n2_ n3_ n4_ n5_ n6_; clear hb hbox hg))
   have n0_ := Aside0.mk (blk_drew BK170.out)
   have n1_ := Aside0.mk (blk_drew BK171.out)
   have n2_ := Aside0.mk (below_drew1 HB.out)
   clear BK170
   clear BK171
   clear HB
   have BK170 := n0_
   have BK171 := n1_
   have HB := n2_
   clear n0_ n1_ n2_
   refine start_ (n := 6) (S := fun w' => w'.cell? ⟨gb170, 0, none⟩ = some (.int .i64 a0_0) ∧ w'.cell? ⟨gb170, 1, none⟩ = some (.int .i64 a0_1) ∧ w'.cell? ⟨gb170, 2, none⟩ = some (.int .i64 a0_2) ∧ w'.cell? ⟨gb170, 3, none⟩ = some (.int .i64 a0_3) ∧ w'.cell? ⟨gb170, 4, none⟩ = some (.int .i64 a0_4) ∧ w'.cell? ⟨gb170, 5, none⟩ = some (.int .i64 a0_5) ∧ w'.cell? ⟨gb171, 0, none⟩ = some (.int .i64 a1_0) ∧ w'.cell? ⟨gb171, 1, none⟩ = some (.int .i64 a1_1) ∧ w'.cell? ⟨gb171, 2, none⟩ = some (.int .i64 a1_2) ∧ w'.cell? ⟨gb171, 3, none⟩ = some (.int .i64 a1_3) ∧ w'.cell? ⟨gb171, 4, none⟩ = some (.int .i64 a1_4) ∧ w'.cell? ⟨gb171, 5, none⟩ = some (.int .i64 a1_5)) (ds := [4, 5]) #[false, false, false, false, false, false] (by kernel_rfl) rfl rfl ⟨(blk_cell BK170.out 0).trans rfl, (blk_cell BK170.out 1).trans rfl, (blk_cell BK170.out 2).trans rfl, (blk_cell BK170.out 3).trans rfl, (blk_cell BK170.out 4).trans rfl, (blk_cell BK170.out 5).trans rfl, (blk_cell BK171.out 0).trans rfl, (blk_cell BK171.out 1).trans rfl, (blk_cell BK171.out 2).trans rfl, (blk_cell BK171.out 3).trans rfl, (blk_cell BK171.out 4).trans rfl, (blk_cell BK171.out 5).trans rfl⟩ (fun hHeld => ?_)
   generalize wx0d471.drew = wza1 at BK170 BK171 HB hHeld ⊢
   refine take_ (i := 0) (N := some 12) (v := ?_) (a' := ?_) #[true, false, false, false, false, false] rfl rfl (by kernel_rfl) (fun _ _ _ h => h) (Or.inl ⟨by rfl, ?_⟩) hHeld ?_ ?_
   rotate_left
   · rintro w' ⟨s0, s1, s2, s3, s4, s5, s6, s7, s8, s9, s10, s11⟩
     go_simp
     with_reducible rfl
   rotate_left
   · simp only [Act.put, List.setIfInBounds_toArray, List.set_cons_zero, List.set_cons_succ, i64_w, i32_w]
     rfl
   refine take_ (i := 2) (N := some 14) (v := ?_) (a' := ?_) #[true, false, true, false, false, false] rfl rfl (by kernel_rfl) (fun _ _ _ h => h) (Or.inl ⟨by rfl, ?_⟩) hHeld ?_ ?_
   rotate_left
   · rintro w' ⟨s0, s1, s2, s3, s4, s5, s6, s7, s8, s9, s10, s11⟩
     go_simp
     with_reducible rfl
   rotate_left
   · simp only [Act.put, List.setIfInBounds_toArray, List.set_cons_zero, List.set_cons_succ, i64_w, i32_w]
     rfl
   refine one_ (i := 1) (N := some 13) #[true, true, true, false, false, false] rfl rfl (by kernel_rfl) (by decide) (fun K hK => ?_)
   refine goes_ Try.func26 (by kernel_rfl) rfl #[.agg #[.int .i64 a0_0, .int .i64 a0_1, .int .i64 a0_2, .int .i64 a0_3, .int .i64 a0_4, .int .i64 a0_5]] (by rfl) rfl rfl (by (try simp only [List.map_toArray, List.map_cons, List.map_nil]); first | done | rfl | (simp only [List.length_drop, List.length_take]; rfl)) ?_
   with_reducible refine (skywaykeep1_short.calls a0_0 a0_1 a0_2 a0_3 a0_4 a0_5 t172 t173 t174 t175 t176 t177 _ A4.out).mono ?_
   rintro e wza2 ⟨rfl, hb⟩
   refine ⟨_, rfl, ?_⟩
   have n0_ := Aside0.mk (blk_below (g := gb170) (o := .cells #[.int .i64 a0_0, .int .i64 a0_1, .int .i64 a0_2, .int .i64 a0_3, .int .i64 a0_4, .int .i64 a0_5] 36 (0, 0)) (by (with_reducible repeat (first | refine blk_drewN ?_ _ | refine blk_drew ?_ | refine blk_alloc ?_ _)); exact BK170.out) hb)
   have n1_ := Aside0.mk (blk_below (g := gb171) (o := .cells #[.int .i64 a1_0, .int .i64 a1_1, .int .i64 a1_2, .int .i64 a1_3, .int .i64 a1_4, .int .i64 a1_5] 36 (0, 0)) (by (with_reducible repeat (first | refine blk_drewN ?_ _ | refine blk_drew ?_ | refine blk_alloc ?_ _)); exact BK171.out) hb)
   have n2_ := Aside0.mk (below_step (by repeat (first | (with_reducible first | exact HB.out | apply below_alloc | apply pw_below_drewN | apply below_drew1 | refine below_set ?_ GE170.out | refine below_set ?_ GE171.out) | exact HB.out)) hb)
   clear BK170
   clear BK171
   clear HB
   have BK170 := n0_
   have BK171 := n1_
   have HB := n2_
   clear n0_ n1_ n2_
   (try clear hb)
   (try clear hb2)
   (try clear hk)
   (try clear hi)
   refine hK.out _ _ ⟨(blk_cell BK170.out 0).trans rfl, (blk_cell BK170.out 1).trans rfl, (blk_cell BK170.out 2).trans rfl, (blk_cell BK170.out 3).trans rfl, (blk_cell BK170.out 4).trans rfl, (blk_cell BK170.out 5).trans rfl, (blk_cell BK171.out 0).trans rfl, (blk_cell BK171.out 1).trans rfl, (blk_cell BK171.out 2).trans rfl, (blk_cell BK171.out 3).trans rfl, (blk_cell BK171.out 4).trans rfl, (blk_cell BK171.out 5).trans rfl⟩ (fun hHeld => ?_)
   clear hK K
   refine norm_ (a' := ?_) ?_ ?_
   rotate_left
   · show Act.put _ (some 13) _ = _
     simp only [Act.put, List.setIfInBounds_toArray, List.set_cons_zero, List.set_cons_succ, i64_w, i32_w]
     rfl
   refine one_ (i := 3) (N := some 15) #[true, true, true, true, false, false] rfl rfl (by kernel_rfl) (by decide) (fun K hK => ?_)
   refine goes_ Try.func26 (by kernel_rfl) rfl #[.agg #[.int .i64 a1_0, .int .i64 a1_1, .int .i64 a1_2, .int .i64 a1_3, .int .i64 a1_4, .int .i64 a1_5]] (by rfl) rfl rfl (by (try simp only [List.map_toArray, List.map_cons, List.map_nil]); first | done | rfl | (simp only [List.length_drop, List.length_take]; rfl)) ?_
   with_reducible refine (skywaykeep1_short.calls a1_0 a1_1 a1_2 a1_3 a1_4 a1_5 t178 t179 t180 t181 t182 t183 _ A5.out).mono ?_
   rintro e wza3 ⟨rfl, hb⟩
   refine ⟨_, rfl, ?_⟩
   have n0_ := Aside0.mk (blk_below (g := gb170) (o := .cells #[.int .i64 a0_0, .int .i64 a0_1, .int .i64 a0_2, .int .i64 a0_3, .int .i64 a0_4, .int .i64 a0_5] 36 (0, 0)) (by (with_reducible repeat (first | refine blk_drewN ?_ _ | refine blk_drew ?_ | refine blk_alloc ?_ _)); exact BK170.out) hb)
   have n1_ := Aside0.mk (blk_below (g := gb171) (o := .cells #[.int .i64 a1_0, .int .i64 a1_1, .int .i64 a1_2, .int .i64 a1_3, .int .i64 a1_4, .int .i64 a1_5] 36 (0, 0)) (by (with_reducible repeat (first | refine blk_drewN ?_ _ | refine blk_drew ?_ | refine blk_alloc ?_ _)); exact BK171.out) hb)
   have n2_ := Aside0.mk (below_step (by repeat (first | (with_reducible first | exact HB.out | apply below_alloc | apply pw_below_drewN | apply below_drew1 | refine below_set ?_ GE170.out | refine below_set ?_ GE171.out) | exact HB.out)) hb)
   clear BK170
   clear BK171
   clear HB
   have BK170 := n0_
   have BK171 := n1_
   have HB := n2_
   clear n0_ n1_ n2_
   (try clear hb)
   (try clear hb2)
   (try clear hk)
   (try clear hi)
   refine hK.out _ _ ⟨(blk_cell BK170.out 0).trans rfl, (blk_cell BK170.out 1).trans rfl, (blk_cell BK170.out 2).trans rfl, (blk_cell BK170.out 3).trans rfl, (blk_cell BK170.out 4).trans rfl, (blk_cell BK170.out 5).trans rfl, (blk_cell BK171.out 0).trans rfl, (blk_cell BK171.out 1).trans rfl, (blk_cell BK171.out 2).trans rfl, (blk_cell BK171.out 3).trans rfl, (blk_cell BK171.out 4).trans rfl, (blk_cell BK171.out 5).trans rfl⟩ (fun hHeld => ?_)
   clear hK K
   refine norm_ (a' := ?_) ?_ ?_
   rotate_left
   · show Act.put _ (some 15) _ = _
     simp only [Act.put, List.setIfInBounds_toArray, List.set_cons_zero, List.set_cons_succ, i64_w, i32_w]
     rfl
   refine last_ (i := 4) (N := none) #[true, true, true, true, true, false] rfl rfl (by kernel_rfl) (by decide) (fun K hK => ?_)
   have hsza1 : wza3.cell? ⟨gb170, 0, none⟩ = some (.int .i64 a0_0) := (blk_cell BK170.out 0).trans rfl
   have hfsza1 := blk_frozen BK170.out 0
   have hnsza1 := NB171_170.out
   have hmsza1 := NB170_171.out
   have hsza2 : wza3.cell? ⟨gb170, 1, none⟩ = some (.int .i64 a0_1) := (blk_cell BK170.out 1).trans rfl
   have hfsza2 := blk_frozen BK170.out 1
   have hnsza2 := NB171_170.out
   have hmsza2 := NB170_171.out
   have hsza3 : wza3.cell? ⟨gb170, 2, none⟩ = some (.int .i64 a0_2) := (blk_cell BK170.out 2).trans rfl
   have hfsza3 := blk_frozen BK170.out 2
   have hnsza3 := NB171_170.out
   have hmsza3 := NB170_171.out
   have hsza4 : wza3.cell? ⟨gb170, 3, none⟩ = some (.int .i64 a0_3) := (blk_cell BK170.out 3).trans rfl
   have hfsza4 := blk_frozen BK170.out 3
   have hnsza4 := NB171_170.out
   have hmsza4 := NB170_171.out
   have hsza5 : wza3.cell? ⟨gb170, 4, none⟩ = some (.int .i64 a0_4) := (blk_cell BK170.out 4).trans rfl
   have hfsza5 := blk_frozen BK170.out 4
   have hnsza5 := NB171_170.out
   have hmsza5 := NB170_171.out
   have hsza6 : wza3.cell? ⟨gb170, 5, none⟩ = some (.int .i64 a0_5) := (blk_cell BK170.out 5).trans rfl
   have hfsza6 := blk_frozen BK170.out 5
   have hnsza6 := NB171_170.out
   have hmsza6 := NB170_171.out
   refine skip_ (w1 := ?_) (by rfl) rfl ?_ ?_
   rotate_left
   · go_simp
     rfl
   refine hK.out _ _ ?_
   clear hK K
   refine last_ (i := 5) (N := none) #[true, true, true, true, true, true] rfl rfl (by kernel_rfl) (by decide) (fun K hK => ?_)
   have hsza7 : wza3.cell? ⟨gb171, 0, none⟩ = some (.int .i64 a1_0) := (blk_cell BK171.out 0).trans rfl
   have hfsza7 := blk_frozen BK171.out 0
   have hnsza7 := NB170_171.out
   have hmsza7 := NB171_170.out
   have hsza8 : wza3.cell? ⟨gb171, 1, none⟩ = some (.int .i64 a1_1) := (blk_cell BK171.out 1).trans rfl
   have hfsza8 := blk_frozen BK171.out 1
   have hnsza8 := NB170_171.out
   have hmsza8 := NB171_170.out
   have hsza9 : wza3.cell? ⟨gb171, 2, none⟩ = some (.int .i64 a1_2) := (blk_cell BK171.out 2).trans rfl
   have hfsza9 := blk_frozen BK171.out 2
   have hnsza9 := NB170_171.out
   have hmsza9 := NB171_170.out
   have hsza10 : wza3.cell? ⟨gb171, 3, none⟩ = some (.int .i64 a1_3) := (blk_cell BK171.out 3).trans rfl
   have hfsza10 := blk_frozen BK171.out 3
   have hnsza10 := NB170_171.out
   have hmsza10 := NB171_170.out
   have hsza11 : wza3.cell? ⟨gb171, 4, none⟩ = some (.int .i64 a1_4) := (blk_cell BK171.out 4).trans rfl
   have hfsza11 := blk_frozen BK171.out 4
   have hnsza11 := NB170_171.out
   have hmsza11 := NB171_170.out
   have hsza12 : wza3.cell? ⟨gb171, 5, none⟩ = some (.int .i64 a1_5) := (blk_cell BK171.out 5).trans rfl
   have hfsza12 := blk_frozen BK171.out 5
   have hnsza12 := NB170_171.out
   have hmsza12 := NB171_170.out
   refine skip_ (w1 := ?_) (by rfl) rfl ?_ ?_
   rotate_left
   · go_simp
     rfl
   refine hK.out _ _ ?_
   clear hK K
   refine done_ (by kernel_rfl) ?_
   go_upto_region 6 with (first | ((with_reducible refine gate_callee (f := 20) rfl ?_); refine goesL_ (some 16) rfl rfl Try.func20 (by kernel_rfl) rfl #[] rfl (by (try simp only [List.map_toArray, List.map_cons, List.map_nil]); first | done | rfl | (simp only [List.length_drop, List.length_take]; rfl)) ?_; (with_reducible refine (skywaykeep1_motionWorks.calls k  true _ A6.out).mono ?_); rintro e wx42791 ⟨rfl, hb⟩; refine ⟨_, rfl, ?_⟩; have n0_ := Aside0.mk (blk_below (g := gb170) (o := .cells #[.int .i64 t172, .int .i64 t173, .int .i64 t174, .int .i64 t175, .int .i64 t176, .int .i64 t177] 36 (0, 0)) (by (with_reducible repeat (first | refine blk_drewN ?_ _ | refine blk_drew ?_ | refine blk_alloc ?_ _)); refine blk_far ?_ NB170_171.out _; (with_reducible repeat (first | refine blk_drewN ?_ _ | refine blk_drew ?_ | refine blk_alloc ?_ _)); refine blk_far ?_ NB170_171.out _; (with_reducible repeat (first | refine blk_drewN ?_ _ | refine blk_drew ?_ | refine blk_alloc ?_ _)); refine blk_far ?_ NB170_171.out _; (with_reducible repeat (first | refine blk_drewN ?_ _ | refine blk_drew ?_ | refine blk_alloc ?_ _)); refine blk_far ?_ NB170_171.out _; (with_reducible repeat (first | refine blk_drewN ?_ _ | refine blk_drew ?_ | refine blk_alloc ?_ _)); refine blk_far ?_ NB170_171.out _; (with_reducible repeat (first | refine blk_drewN ?_ _ | refine blk_drew ?_ | refine blk_alloc ?_ _)); refine blk_far ?_ NB170_171.out _; (with_reducible repeat (first | refine blk_drewN ?_ _ | refine blk_drew ?_ | refine blk_alloc ?_ _)); refine blk_put (cs := #[.int .i64 t172, .int .i64 t173, .int .i64 t174, .int .i64 t175, .int .i64 t176, .int .i64 a0_5]) ?_ 5 _ rfl; (with_reducible repeat (first | refine blk_drewN ?_ _ | refine blk_drew ?_ | refine blk_alloc ?_ _)); refine blk_put (cs := #[.int .i64 t172, .int .i64 t173, .int .i64 t174, .int .i64 t175, .int .i64 a0_4, .int .i64 a0_5]) ?_ 4 _ rfl; (with_reducible repeat (first | refine blk_drewN ?_ _ | refine blk_drew ?_ | refine blk_alloc ?_ _)); refine blk_put (cs := #[.int .i64 t172, .int .i64 t173, .int .i64 t174, .int .i64 a0_3, .int .i64 a0_4, .int .i64 a0_5]) ?_ 3 _ rfl; (with_reducible repeat (first | refine blk_drewN ?_ _ | refine blk_drew ?_ | refine blk_alloc ?_ _)); refine blk_put (cs := #[.int .i64 t172, .int .i64 t173, .int .i64 a0_2, .int .i64 a0_3, .int .i64 a0_4, .int .i64 a0_5]) ?_ 2 _ rfl; (with_reducible repeat (first | refine blk_drewN ?_ _ | refine blk_drew ?_ | refine blk_alloc ?_ _)); refine blk_put (cs := #[.int .i64 t172, .int .i64 a0_1, .int .i64 a0_2, .int .i64 a0_3, .int .i64 a0_4, .int .i64 a0_5]) ?_ 1 _ rfl; (with_reducible repeat (first | refine blk_drewN ?_ _ | refine blk_drew ?_ | refine blk_alloc ?_ _)); refine blk_put (cs := #[.int .i64 a0_0, .int .i64 a0_1, .int .i64 a0_2, .int .i64 a0_3, .int .i64 a0_4, .int .i64 a0_5]) ?_ 0 _ rfl; (with_reducible repeat (first | refine blk_drewN ?_ _ | refine blk_drew ?_ | refine blk_alloc ?_ _)); exact BK170.out) hb); have n1_ := Aside0.mk (blk_below (g := gb171) (o := .cells #[.int .i64 t178, .int .i64 t179, .int .i64 t180, .int .i64 t181, .int .i64 t182, .int .i64 t183] 36 (0, 0)) (by (with_reducible repeat (first | refine blk_drewN ?_ _ | refine blk_drew ?_ | refine blk_alloc ?_ _)); refine blk_put (cs := #[.int .i64 t178, .int .i64 t179, .int .i64 t180, .int .i64 t181, .int .i64 t182, .int .i64 a1_5]) ?_ 5 _ rfl; (with_reducible repeat (first | refine blk_drewN ?_ _ | refine blk_drew ?_ | refine blk_alloc ?_ _)); refine blk_put (cs := #[.int .i64 t178, .int .i64 t179, .int .i64 t180, .int .i64 t181, .int .i64 a1_4, .int .i64 a1_5]) ?_ 4 _ rfl; (with_reducible repeat (first | refine blk_drewN ?_ _ | refine blk_drew ?_ | refine blk_alloc ?_ _)); refine blk_put (cs := #[.int .i64 t178, .int .i64 t179, .int .i64 t180, .int .i64 a1_3, .int .i64 a1_4, .int .i64 a1_5]) ?_ 3 _ rfl; (with_reducible repeat (first | refine blk_drewN ?_ _ | refine blk_drew ?_ | refine blk_alloc ?_ _)); refine blk_put (cs := #[.int .i64 t178, .int .i64 t179, .int .i64 a1_2, .int .i64 a1_3, .int .i64 a1_4, .int .i64 a1_5]) ?_ 2 _ rfl; (with_reducible repeat (first | refine blk_drewN ?_ _ | refine blk_drew ?_ | refine blk_alloc ?_ _)); refine blk_put (cs := #[.int .i64 t178, .int .i64 a1_1, .int .i64 a1_2, .int .i64 a1_3, .int .i64 a1_4, .int .i64 a1_5]) ?_ 1 _ rfl; (with_reducible repeat (first | refine blk_drewN ?_ _ | refine blk_drew ?_ | refine blk_alloc ?_ _)); refine blk_put (cs := #[.int .i64 a1_0, .int .i64 a1_1, .int .i64 a1_2, .int .i64 a1_3, .int .i64 a1_4, .int .i64 a1_5]) ?_ 0 _ rfl; (with_reducible repeat (first | refine blk_drewN ?_ _ | refine blk_drew ?_ | refine blk_alloc ?_ _)); refine blk_far ?_ NB171_170.out _; (with_reducible repeat (first | refine blk_drewN ?_ _ | refine blk_drew ?_ | refine blk_alloc ?_ _)); refine blk_far ?_ NB171_170.out _; (with_reducible repeat (first | refine blk_drewN ?_ _ | refine blk_drew ?_ | refine blk_alloc ?_ _)); refine blk_far ?_ NB171_170.out _; (with_reducible repeat (first | refine blk_drewN ?_ _ | refine blk_drew ?_ | refine blk_alloc ?_ _)); refine blk_far ?_ NB171_170.out _; (with_reducible repeat (first | refine blk_drewN ?_ _ | refine blk_drew ?_ | refine blk_alloc ?_ _)); refine blk_far ?_ NB171_170.out _; (with_reducible repeat (first | refine blk_drewN ?_ _ | refine blk_drew ?_ | refine blk_alloc ?_ _)); refine blk_far ?_ NB171_170.out _; (with_reducible repeat (first | refine blk_drewN ?_ _ | refine blk_drew ?_ | refine blk_alloc ?_ _)); exact BK171.out) hb); have n2_ := Aside0.mk (below_step (by repeat (first | (with_reducible first | exact HB.out | apply below_alloc | apply pw_below_drewN | apply below_drew1 | refine below_set ?_ GE170.out | refine below_set ?_ GE171.out) | exact HB.out)) hb); clear BK170; clear BK171; clear HB; have BK170 := n0_; have BK171 := n1_; have HB := n2_; clear n0_ n1_ n2_; (try clear hb); (try clear hb2); (try clear hk); (try clear hi); have hnbx42791 := NB170_171.out; have hncx42791 := NB171_170.out; have hczx42791 : wx42791.cell? ⟨gb170, 0, none⟩ = some (.int .i64 t172) := (blk_cell BK170.out 0).trans rfl; have hczx42792 : wx42791.cell? ⟨gb170, 1, none⟩ = some (.int .i64 t173) := (blk_cell BK170.out 1).trans rfl; have hczx42793 : wx42791.cell? ⟨gb170, 2, none⟩ = some (.int .i64 t174) := (blk_cell BK170.out 2).trans rfl; have hczx42794 : wx42791.cell? ⟨gb170, 3, none⟩ = some (.int .i64 t175) := (blk_cell BK170.out 3).trans rfl; have hczx42795 : wx42791.cell? ⟨gb170, 4, none⟩ = some (.int .i64 t176) := (blk_cell BK170.out 4).trans rfl; have hczx42796 : wx42791.cell? ⟨gb170, 5, none⟩ = some (.int .i64 t177) := (blk_cell BK170.out 5).trans rfl; have hfzx42791 := blk_frozen BK170.out 0; have hfzx42792 := blk_frozen BK170.out 1; have hfzx42793 := blk_frozen BK170.out 2; have hfzx42794 := blk_frozen BK170.out 3; have hfzx42795 := blk_frozen BK170.out 4; have hfzx42796 := blk_frozen BK170.out 5; have hczx42797 : wx42791.cell? ⟨gb171, 0, none⟩ = some (.int .i64 t178) := (blk_cell BK171.out 0).trans rfl; have hczx42798 : wx42791.cell? ⟨gb171, 1, none⟩ = some (.int .i64 t179) := (blk_cell BK171.out 1).trans rfl; have hczx42799 : wx42791.cell? ⟨gb171, 2, none⟩ = some (.int .i64 t180) := (blk_cell BK171.out 2).trans rfl; have hczx427910 : wx42791.cell? ⟨gb171, 3, none⟩ = some (.int .i64 t181) := (blk_cell BK171.out 3).trans rfl; have hczx427911 : wx42791.cell? ⟨gb171, 4, none⟩ = some (.int .i64 t182) := (blk_cell BK171.out 4).trans rfl; have hczx427912 : wx42791.cell? ⟨gb171, 5, none⟩ = some (.int .i64 t183) := (blk_cell BK171.out 5).trans rfl; have hfzx42797 := blk_frozen BK171.out 0; have hfzx42798 := blk_frozen BK171.out 1; have hfzx42799 := blk_frozen BK171.out 2; have hfzx427910 := blk_frozen BK171.out 3; have hfzx427911 := blk_frozen BK171.out 4; have hfzx427912 := blk_frozen BK171.out 5) | ((with_reducible refine gate_callee (f := 29) rfl ?_); refine goesL_ (some 22) rfl rfl Try.func29 (by kernel_rfl) rfl #[.agg #[.int .i64 t172, .int .i64 t173, .int .i64 t174, .int .i64 t175, .int .i64 t176, .int .i64 t177], .agg #[.int .i64 t178, .int .i64 t179, .int .i64 t180, .int .i64 t181, .int .i64 t182, .int .i64 t183], .int .i64 a2] rfl (by (try simp only [List.map_toArray, List.map_cons, List.map_nil]); first | done | rfl | (simp only [List.length_drop, List.length_take]; rfl)) ?_; (with_reducible refine (motion_First.calls k t172 t173 t174 t175 t176 t177 t178 t179 t180 t181 t182 t183 a2 t185 t186 _ A8.out).mono ?_); rintro e wxd7841 ⟨rfl, hb⟩; refine ⟨_, rfl, ?_⟩; have n0_ := Aside0.mk (blk_below (g := gb170) (o := .cells #[.int .i64 t172, .int .i64 t173, .int .i64 t174, .int .i64 t175, .int .i64 t176, .int .i64 t177] 36 (0, 0)) (by (with_reducible repeat (first | refine blk_drewN ?_ _ | refine blk_drew ?_ | refine blk_alloc ?_ _)); exact BK170.out) hb); have n1_ := Aside0.mk (blk_below (g := gb171) (o := .cells #[.int .i64 t178, .int .i64 t179, .int .i64 t180, .int .i64 t181, .int .i64 t182, .int .i64 t183] 36 (0, 0)) (by (with_reducible repeat (first | refine blk_drewN ?_ _ | refine blk_drew ?_ | refine blk_alloc ?_ _)); exact BK171.out) hb); have n2_ := Aside0.mk (below_step (by repeat (first | (with_reducible first | exact HB.out | apply below_alloc | apply pw_below_drewN | apply below_drew1 | refine below_set ?_ GE170.out | refine below_set ?_ GE171.out) | exact HB.out)) hb); clear BK170; clear BK171; clear HB; have BK170 := n0_; have BK171 := n1_; have HB := n2_; clear n0_ n1_ n2_; (try clear hb); (try clear hb2); (try clear hk); (try clear hi); have hczxd7841 : wxd7841.cell? ⟨gb170, 0, none⟩ = some (.int .i64 t172) := (blk_cell BK170.out 0).trans rfl; have hczxd7842 : wxd7841.cell? ⟨gb170, 1, none⟩ = some (.int .i64 t173) := (blk_cell BK170.out 1).trans rfl; have hczxd7843 : wxd7841.cell? ⟨gb170, 2, none⟩ = some (.int .i64 t174) := (blk_cell BK170.out 2).trans rfl; have hczxd7844 : wxd7841.cell? ⟨gb170, 3, none⟩ = some (.int .i64 t175) := (blk_cell BK170.out 3).trans rfl; have hczxd7845 : wxd7841.cell? ⟨gb170, 4, none⟩ = some (.int .i64 t176) := (blk_cell BK170.out 4).trans rfl; have hczxd7846 : wxd7841.cell? ⟨gb170, 5, none⟩ = some (.int .i64 t177) := (blk_cell BK170.out 5).trans rfl; have hfzxd7841 := blk_frozen BK170.out 0; have hfzxd7842 := blk_frozen BK170.out 1; have hfzxd7843 := blk_frozen BK170.out 2; have hfzxd7844 := blk_frozen BK170.out 3; have hfzxd7845 := blk_frozen BK170.out 4; have hfzxd7846 := blk_frozen BK170.out 5; have hczxd7847 : wxd7841.cell? ⟨gb171, 0, none⟩ = some (.int .i64 t178) := (blk_cell BK171.out 0).trans rfl; have hczxd7848 : wxd7841.cell? ⟨gb171, 1, none⟩ = some (.int .i64 t179) := (blk_cell BK171.out 1).trans rfl; have hczxd7849 : wxd7841.cell? ⟨gb171, 2, none⟩ = some (.int .i64 t180) := (blk_cell BK171.out 2).trans rfl; have hczxd78410 : wxd7841.cell? ⟨gb171, 3, none⟩ = some (.int .i64 t181) := (blk_cell BK171.out 3).trans rfl; have hczxd78411 : wxd7841.cell? ⟨gb171, 4, none⟩ = some (.int .i64 t182) := (blk_cell BK171.out 4).trans rfl; have hczxd78412 : wxd7841.cell? ⟨gb171, 5, none⟩ = some (.int .i64 t183) := (blk_cell BK171.out 5).trans rfl; have hfzxd7847 := blk_frozen BK171.out 0; have hfzxd7848 := blk_frozen BK171.out 1; have hfzxd7849 := blk_frozen BK171.out 2; have hfzxd78410 := blk_frozen BK171.out 3; have hfzxd78411 := blk_frozen BK171.out 4; have hfzxd78412 := blk_frozen BK171.out 5) | ((with_reducible refine gate_callee (f := 27) rfl ?_); refine goesL_ (some 28) rfl rfl Try.func27 (by kernel_rfl) rfl #[.agg #[.int .i64 t172, .int .i64 t173, .int .i64 t174, .int .i64 t175, .int .i64 t176, .int .i64 t177], .agg #[.int .i64 t178, .int .i64 t179, .int .i64 t180, .int .i64 t181, .int .i64 t182, .int .i64 t183]] rfl (by (try simp only [List.map_toArray, List.map_cons, List.map_nil]); first | done | rfl | (simp only [List.length_drop, List.length_take]; rfl)) ?_; (with_reducible refine (motion_Least.calls k t172 t173 t174 t175 t176 t177 t178 t179 t180 t181 t182 t183 t187 t188 t189 _ A9.out).mono ?_); rintro e wx18931 ⟨rfl, hb⟩; refine ⟨_, rfl, ?_⟩; have n0_ := Aside0.mk (blk_below (g := gb170) (o := .cells #[.int .i64 t172, .int .i64 t173, .int .i64 t174, .int .i64 t175, .int .i64 t176, .int .i64 t177] 36 (0, 0)) (by (with_reducible repeat (first | refine blk_drewN ?_ _ | refine blk_drew ?_ | refine blk_alloc ?_ _)); exact BK170.out) hb); have n1_ := Aside0.mk (blk_below (g := gb171) (o := .cells #[.int .i64 t178, .int .i64 t179, .int .i64 t180, .int .i64 t181, .int .i64 t182, .int .i64 t183] 36 (0, 0)) (by (with_reducible repeat (first | refine blk_drewN ?_ _ | refine blk_drew ?_ | refine blk_alloc ?_ _)); exact BK171.out) hb); have n2_ := Aside0.mk (below_step (by repeat (first | (with_reducible first | exact HB.out | apply below_alloc | apply pw_below_drewN | apply below_drew1 | refine below_set ?_ GE170.out | refine below_set ?_ GE171.out) | exact HB.out)) hb); clear BK170; clear BK171; clear HB; have BK170 := n0_; have BK171 := n1_; have HB := n2_; clear n0_ n1_ n2_; (try clear hb); (try clear hb2); (try clear hk); (try clear hi)))
   (try simp only [Act.put, List.setIfInBounds_toArray, List.set_cons_zero, List.set_cons_succ])
   go_cut [41] (fun v41 wc => ∃ (kq : Nat) (x41_9 : Bool), v41 = .bool x41_9 ∧ Aside0 (skywaykeep1_MotionFirst.j0 kq a2 t185 t186 t187 t188 x41_9 = some r) ∧ Aside0 (kq ≤ k) ∧ Aside0 (wc.heap[gb170]? = some (.cells #[.int .i64 t172, .int .i64 t173, .int .i64 t174, .int .i64 t175, .int .i64 t176, .int .i64 t177] 36 (0, 0))) ∧ Aside0 (wc.heap[gb171]? = some (.cells #[.int .i64 t178, .int .i64 t179, .int .i64 t180, .int .i64 t181, .int .i64 t182, .int .i64 t183] 36 (0, 0))) ∧ Aside0 (Below w.heap.size w wc))
   case first =>
    have H := HC10.out
    clear HC10
    refine Or.elim (Classical.em (a2 < 0)) (fun c36 => ?p2_) (fun c36 => ?n2_)
    case' p2_ =>
     rw [if_pos c36] at H
     have c36b0 : decide (a2 < 0) = true := decide_eq_true c36
     clear c36
     (first | rw [c36b0] | (simp only [i64_w, i32_w]; rw [c36b0]) | skip)
    case' n2_ =>
     rw [if_neg c36] at H
     have c36b0 : decide (a2 < 0) = false := decide_eq_false c36
     clear c36
     (first | rw [c36b0] | (simp only [i64_w, i32_w]; rw [c36b0]) | skip)
     refine Or.elim (Classical.em (a2 > 1000000)) (fun c37 => ?p3_) (fun c37 => ?n3_)
     case' p3_ =>
      rw [if_pos c37] at H
      have c37b0 : decide (1000000 < a2) = true := decide_eq_true c37
      clear c37
     case' n3_ =>
      rw [if_neg c37] at H
      have c37b0 : decide (1000000 < a2) = false := decide_eq_false c37
      clear c37
    all_goals
     have H' := Aside0.mk H
     clear H
     go_wp2
     go_meet
     case rel => first | (exact ⟨_, (true), (by first | rfl | (simp; done) | (simp [*]; done)), H', ⟨by first | omega | exact Nat.le_refl _⟩, ⟨by (with_reducible repeat (first | refine blk_drewN ?_ _ | refine blk_drew ?_ | refine blk_alloc ?_ _)); exact BK170.out⟩, ⟨by (with_reducible repeat (first | refine blk_drewN ?_ _ | refine blk_drew ?_ | refine blk_alloc ?_ _)); exact BK171.out⟩, ⟨by repeat (first | (with_reducible first | exact HB.out | apply below_alloc | apply pw_below_drewN | apply below_drew1 | refine below_set ?_ GE170.out | refine below_set ?_ GE171.out) | exact HB.out)⟩⟩) | (exact ⟨_, ((t189 != 0)), (by first | rfl | (simp; done) | (simp [*]; done)), H', ⟨by first | omega | exact Nat.le_refl _⟩, ⟨by (with_reducible repeat (first | refine blk_drewN ?_ _ | refine blk_drew ?_ | refine blk_alloc ?_ _)); exact BK170.out⟩, ⟨by (with_reducible repeat (first | refine blk_drewN ?_ _ | refine blk_drew ?_ | refine blk_alloc ?_ _)); exact BK171.out⟩, ⟨by repeat (first | (with_reducible first | exact HB.out | apply below_alloc | apply pw_below_drewN | apply below_drew1 | refine below_set ?_ GE170.out | refine below_set ?_ GE171.out) | exact HB.out)⟩⟩)
   case rest =>
    clear HC10
    (try clear p1); (try clear c2); (try clear p2); (try clear c3); (try clear c7); (try clear c8); (try clear c20); (try clear c26); (try clear c27); (try clear c29); (try clear c36); (try clear c36b0); (try clear c37); (try clear c37b0); (try clear hczx42791); (try clear hczx42792); (try clear hczx42793); (try clear hczx42794); (try clear hczx42795); (try clear hczx42796); (try clear hczx42797); (try clear hczx42798); (try clear hczx42799); (try clear hczx427910); (try clear hczx427911); (try clear hczx427912); (try clear hczxd7841); (try clear hczxd7842); (try clear hczxd7843); (try clear hczxd7844); (try clear hczxd7845); (try clear hczxd7846); (try clear hczxd7847); (try clear hczxd7848); (try clear hczxd7849); (try clear hczxd78410); (try clear hczxd78411); (try clear hczxd78412); (try clear hfzx42791); (try clear hfzx42792)
    (try clear hfzx42793); (try clear hfzx42794); (try clear hfzx42795); (try clear hfzx42796); (try clear hfzx42797); (try clear hfzx42798); (try clear hfzx42799); (try clear hfzx427910); (try clear hfzx427911); (try clear hfzx427912); (try clear hfzxd7841); (try clear hfzxd7842); (try clear hfzxd7843); (try clear hfzxd7844); (try clear hfzxd7845); (try clear hfzxd7846); (try clear hfzxd7847); (try clear hfzxd7848); (try clear hfzxd7849); (try clear hfzxd78410); (try clear hfzxd78411); (try clear hfzxd78412)
    obtain ⟨kq, x41_9, rfl, HA, HJ9, BK170, BK171, HB⟩ := hcut
    cases kq with
    | zero => exact absurd HA.out (by simp [skywaykeep1_MotionFirst.j0])
    | succ kj9 =>
     have H := HA.out
     clear HA
     simp only [skywaykeep1_MotionFirst.j0] at H
     refine Or.elim (Classical.em (x41_9 = true)) (fun c38 => ?p5_) (fun c38 => ?n5_)
     case' p5_ =>
      subst c38
      have H1 : (if t185 = 0 then (some (t186 != 0)) else (some false)) = some r := by rw [if_pos rfl] at H; exact H
      clear H
      have H := H1
      clear H1
      refine Or.elim (Classical.em (t185 = 0)) (fun c39 => ?p6_) (fun c39 => ?n6_)
      case' p6_ =>
       rw [if_pos c39] at H
       have c39b0 : (t185 == 0) = true := beq_iff_eq.mpr c39
       have c39b1 : (t185 != 0) = false := bne_eq_false_iff_eq.mpr c39
       clear c39
      case' n6_ =>
       rw [if_neg c39] at H
       have c39b0 : (t185 == 0) = false := beq_eq_false_iff_ne.mpr c39
       have c39b1 : (t185 != 0) = true := bne_iff_ne.mpr c39
     case' n5_ =>
      replace c38 := Bool.eq_false_iff.mpr c38
      subst c38
      have H1 : (if t186 = 8 then (if t185 = 0 then (some (decide (t187 ≥ (wrap64 (a2 * a2))))) else (some false)) else (if t186 = 0 then (if t187 < (wrap64 (a2 * a2)) then (some (decide (t185 ≤ t188))) else (some false)) else (some false))) = some r := by rw [if_neg (show ¬ (false = true) by decide)] at H; exact H
      clear H
      have H := H1
      clear H1
      refine Or.elim (Classical.em (t186 = 8)) (fun c40 => ?p7_) (fun c40 => ?n7_)
      case' p7_ =>
       rw [if_pos c40] at H
       have c40b0 : (t186 == 8) = true := beq_iff_eq.mpr c40
       have c40b1 : (t186 != 8) = false := bne_eq_false_iff_eq.mpr c40
       clear c40
       refine Or.elim (Classical.em (t185 = 0)) (fun c41 => ?p8_) (fun c41 => ?n8_)
       case' p8_ =>
        rw [if_pos c41] at H
        have c41b0 : (t185 == 0) = true := beq_iff_eq.mpr c41
        have c41b1 : (t185 != 0) = false := bne_eq_false_iff_eq.mpr c41
        clear c41
       case' n8_ =>
        rw [if_neg c41] at H
        have c41b0 : (t185 == 0) = false := beq_eq_false_iff_ne.mpr c41
        have c41b1 : (t185 != 0) = true := bne_iff_ne.mpr c41
      case' n7_ =>
       rw [if_neg c40] at H
       have c40b0 : (t186 == 8) = false := beq_eq_false_iff_ne.mpr c40
       have c40b1 : (t186 != 8) = true := bne_iff_ne.mpr c40
       refine Or.elim (Classical.em (t186 = 0)) (fun c42 => ?p9_) (fun c42 => ?n9_)
       case' p9_ =>
        rw [if_pos c42] at H
        have c42b0 : (t186 == 0) = true := beq_iff_eq.mpr c42
        have c42b1 : (t186 != 0) = false := bne_eq_false_iff_eq.mpr c42
        clear c42
        refine Or.elim (Classical.em (t187 < (wrap64 (a2 * a2)))) (fun c43 => ?p10_) (fun c43 => ?n10_)
        case' p10_ =>
         rw [if_pos c43] at H
         have c43b0 : decide (t187 < (wrap64 (a2 * a2))) = true := decide_eq_true c43
         clear c43
        case' n10_ =>
         rw [if_neg c43] at H
         have c43b0 : decide (t187 < (wrap64 (a2 * a2))) = false := decide_eq_false c43
         clear c43
       case' n9_ =>
        rw [if_neg c42] at H
        have c42b0 : (t186 == 0) = false := beq_eq_false_iff_ne.mpr c42
        have c42b1 : (t186 != 0) = true := bne_iff_ne.mpr c42
     all_goals
      obtain rfl := Option.some.inj H
      go_wp2
      go_ret
      exact ⟨by first | rfl | (simp [errW_none, errW_some] <;> rfl) | (simp [*, errW_none, errW_some] <;> rfl), by repeat (first | (with_reducible first | exact HB.out | apply below_alloc | apply pw_below_drewN | apply below_drew1 | refine below_set ?_ GE170.out | refine below_set ?_ GE171.out) | exact HB.out)⟩
 · replace c7 := Bool.eq_false_iff.mpr c7
   subst c7
   have H1 : (some false) = some r := by rw [if_neg (show ¬ (false = true) by decide)] at H; exact H
   clear H
   have H := H1
   clear H1
   obtain rfl := Option.some.inj H
   go_enter Try.func8, Try.ntmps8
   try go_wp2_with (first | ((with_reducible refine gate_dst (N := 3) rfl ?_); refine box_event ?hg (N := 3) ?hd (cs := #[.int .i64 a0_0, .int .i64 a0_1, .int .i64 a0_2, .int .i64 a0_3, .int .i64 a0_4, .int .i64 a0_5]) (t := 36) ?hr ?_; (case hd => rfl); (case hg => rfl); (case hr => first | (go_simp; done) | (go_simp; rfl)); intro gb170 hg wx257f1 hbox hb; have n0_ := Aside0.mk (below_step (by repeat (first | (with_reducible first | exact HB.out | apply below_alloc | apply pw_below_drewN | apply below_drew1) | exact HB.out)) hb); have n1_ := Aside0.mk (hbox); have n2_ := Aside0.mk ((by rw [hg]; exact (below_size (by repeat (first | (with_reducible first | exact HB.out | apply below_alloc | apply pw_below_drewN | apply below_drew1) | exact HB.out))) : w.heap.size ≤ gb170)); have n3_ := Aside0.mk ((by rw [hg]; exact (below_size (by repeat (first | (with_reducible first | exact HB.out | apply below_alloc | apply pw_below_drewN | apply below_drew1) | exact HB.out))) : w.heap.size ≤ gb170)); clear HB; have HB := n0_; have BK170 := n1_; have GW170 := n2_; have GE170 := n3_; clear n0_ n1_ n2_ n3_; clear hb hbox hg) | ((with_reducible refine gate_dst (N := 4) rfl ?_); refine box_event ?hg (N := 4) ?hd (cs := #[.int .i64 a1_0, .int .i64 a1_1, .int .i64 a1_2, .int .i64 a1_3, .int .i64 a1_4, .int .i64 a1_5]) (t := 36) ?hr ?_; (case hd => rfl); (case hg => rfl); (case hr => first | (go_simp; done) | (go_simp; rfl)); intro gb171 hg wx0d471 hbox hb; have n0_ := Aside0.mk (blk_below (g := gb170) (o := .cells #[.int .i64 a0_0, .int .i64 a0_1, .int .i64 a0_2, .int .i64 a0_3, .int .i64 a0_4, .int .i64 a0_5] 36 (0, 0)) (by (with_reducible repeat (first | refine blk_drewN ?_ _ | refine blk_drew ?_ | refine blk_alloc ?_ _)); exact BK170.out) hb); have n1_ := Aside0.mk (below_step (by repeat (first | (with_reducible first | exact HB.out | apply below_alloc | apply pw_below_drewN | apply below_drew1 | refine below_set ?_ GE170.out) | exact HB.out)) hb); have n2_ := Aside0.mk (hbox); have n3_ := Aside0.mk ((by rw [hg]; exact (below_size (by repeat (first | (with_reducible first | exact HB.out | apply below_alloc | apply pw_below_drewN | apply below_drew1 | refine below_set ?_ GE170.out) | exact HB.out))) : w.heap.size ≤ gb171)); have n4_ := Aside0.mk ((by rw [hg]; exact (below_size (by repeat (first | (with_reducible first | exact HB.out | apply below_alloc | apply pw_below_drewN | apply below_drew1 | refine below_set ?_ GE170.out) | exact HB.out))) : w.heap.size ≤ gb171)); have n5_ := Aside0.mk ((by rw [hg]; exact Nat.ne_of_lt (blk_lt (g := gb170) (o := .cells #[.int .i64 a0_0, .int .i64 a0_1, .int .i64 a0_2, .int .i64 a0_3, .int .i64 a0_4, .int .i64 a0_5] 36 (0, 0)) (by (with_reducible repeat (first | refine blk_drewN ?_ _ | refine blk_drew ?_ | refine blk_alloc ?_ _)); exact BK170.out)) : gb170 ≠ gb171)); have n6_ := Aside0.mk ((by rw [hg]; exact Nat.ne_of_gt (blk_lt (g := gb170) (o := .cells #[.int .i64 a0_0, .int .i64 a0_1, .int .i64 a0_2, .int .i64 a0_3, .int .i64 a0_4, .int .i64 a0_5] 36 (0, 0)) (by (with_reducible repeat (first | refine blk_drewN ?_ _ | refine blk_drew ?_ | refine blk_alloc ?_ _)); exact BK170.out)) : gb171 ≠ gb170)); clear BK170; clear HB; have BK170 := n0_; have HB := n1_; have BK171 := n2_; have GW171 := n3_; have GE171 := n4_; have NB170_171 := n5_; have NB171_170 := n6_; clear n0_ n1_ n2_ n3_ n4_ n5_ n6_; clear hb hbox hg))
   have n0_ := Aside0.mk (blk_drew BK170.out)
   have n1_ := Aside0.mk (blk_drew BK171.out)
   have n2_ := Aside0.mk (below_drew1 HB.out)
   clear BK170
   clear BK171
   clear HB
   have BK170 := n0_
   have BK171 := n1_
   have HB := n2_
   clear n0_ n1_ n2_
   refine start_ (n := 6) (S := fun w' => w'.cell? ⟨gb170, 0, none⟩ = some (.int .i64 a0_0) ∧ w'.cell? ⟨gb170, 1, none⟩ = some (.int .i64 a0_1) ∧ w'.cell? ⟨gb170, 2, none⟩ = some (.int .i64 a0_2) ∧ w'.cell? ⟨gb170, 3, none⟩ = some (.int .i64 a0_3) ∧ w'.cell? ⟨gb170, 4, none⟩ = some (.int .i64 a0_4) ∧ w'.cell? ⟨gb170, 5, none⟩ = some (.int .i64 a0_5) ∧ w'.cell? ⟨gb171, 0, none⟩ = some (.int .i64 a1_0) ∧ w'.cell? ⟨gb171, 1, none⟩ = some (.int .i64 a1_1) ∧ w'.cell? ⟨gb171, 2, none⟩ = some (.int .i64 a1_2) ∧ w'.cell? ⟨gb171, 3, none⟩ = some (.int .i64 a1_3) ∧ w'.cell? ⟨gb171, 4, none⟩ = some (.int .i64 a1_4) ∧ w'.cell? ⟨gb171, 5, none⟩ = some (.int .i64 a1_5)) (ds := [4, 5]) #[false, false, false, false, false, false] (by kernel_rfl) rfl rfl ⟨(blk_cell BK170.out 0).trans rfl, (blk_cell BK170.out 1).trans rfl, (blk_cell BK170.out 2).trans rfl, (blk_cell BK170.out 3).trans rfl, (blk_cell BK170.out 4).trans rfl, (blk_cell BK170.out 5).trans rfl, (blk_cell BK171.out 0).trans rfl, (blk_cell BK171.out 1).trans rfl, (blk_cell BK171.out 2).trans rfl, (blk_cell BK171.out 3).trans rfl, (blk_cell BK171.out 4).trans rfl, (blk_cell BK171.out 5).trans rfl⟩ (fun hHeld => ?_)
   generalize wx0d471.drew = wza1 at BK170 BK171 HB hHeld ⊢
   refine take_ (i := 0) (N := some 12) (v := ?_) (a' := ?_) #[true, false, false, false, false, false] rfl rfl (by kernel_rfl) (fun _ _ _ h => h) (Or.inl ⟨by rfl, ?_⟩) hHeld ?_ ?_
   rotate_left
   · rintro w' ⟨s0, s1, s2, s3, s4, s5, s6, s7, s8, s9, s10, s11⟩
     go_simp
     with_reducible rfl
   rotate_left
   · simp only [Act.put, List.setIfInBounds_toArray, List.set_cons_zero, List.set_cons_succ, i64_w, i32_w]
     rfl
   refine take_ (i := 2) (N := some 14) (v := ?_) (a' := ?_) #[true, false, true, false, false, false] rfl rfl (by kernel_rfl) (fun _ _ _ h => h) (Or.inl ⟨by rfl, ?_⟩) hHeld ?_ ?_
   rotate_left
   · rintro w' ⟨s0, s1, s2, s3, s4, s5, s6, s7, s8, s9, s10, s11⟩
     go_simp
     with_reducible rfl
   rotate_left
   · simp only [Act.put, List.setIfInBounds_toArray, List.set_cons_zero, List.set_cons_succ, i64_w, i32_w]
     rfl
   refine one_ (i := 1) (N := some 13) #[true, true, true, false, false, false] rfl rfl (by kernel_rfl) (by decide) (fun K hK => ?_)
   refine goes_ Try.func26 (by kernel_rfl) rfl #[.agg #[.int .i64 a0_0, .int .i64 a0_1, .int .i64 a0_2, .int .i64 a0_3, .int .i64 a0_4, .int .i64 a0_5]] (by rfl) rfl rfl (by (try simp only [List.map_toArray, List.map_cons, List.map_nil]); first | done | rfl | (simp only [List.length_drop, List.length_take]; rfl)) ?_
   with_reducible refine (skywaykeep1_short.calls a0_0 a0_1 a0_2 a0_3 a0_4 a0_5 t172 t173 t174 t175 t176 t177 _ A4.out).mono ?_
   rintro e wza2 ⟨rfl, hb⟩
   refine ⟨_, rfl, ?_⟩
   have n0_ := Aside0.mk (blk_below (g := gb170) (o := .cells #[.int .i64 a0_0, .int .i64 a0_1, .int .i64 a0_2, .int .i64 a0_3, .int .i64 a0_4, .int .i64 a0_5] 36 (0, 0)) (by (with_reducible repeat (first | refine blk_drewN ?_ _ | refine blk_drew ?_ | refine blk_alloc ?_ _)); exact BK170.out) hb)
   have n1_ := Aside0.mk (blk_below (g := gb171) (o := .cells #[.int .i64 a1_0, .int .i64 a1_1, .int .i64 a1_2, .int .i64 a1_3, .int .i64 a1_4, .int .i64 a1_5] 36 (0, 0)) (by (with_reducible repeat (first | refine blk_drewN ?_ _ | refine blk_drew ?_ | refine blk_alloc ?_ _)); exact BK171.out) hb)
   have n2_ := Aside0.mk (below_step (by repeat (first | (with_reducible first | exact HB.out | apply below_alloc | apply pw_below_drewN | apply below_drew1 | refine below_set ?_ GE170.out | refine below_set ?_ GE171.out) | exact HB.out)) hb)
   clear BK170
   clear BK171
   clear HB
   have BK170 := n0_
   have BK171 := n1_
   have HB := n2_
   clear n0_ n1_ n2_
   (try clear hb)
   (try clear hb2)
   (try clear hk)
   (try clear hi)
   refine hK.out _ _ ⟨(blk_cell BK170.out 0).trans rfl, (blk_cell BK170.out 1).trans rfl, (blk_cell BK170.out 2).trans rfl, (blk_cell BK170.out 3).trans rfl, (blk_cell BK170.out 4).trans rfl, (blk_cell BK170.out 5).trans rfl, (blk_cell BK171.out 0).trans rfl, (blk_cell BK171.out 1).trans rfl, (blk_cell BK171.out 2).trans rfl, (blk_cell BK171.out 3).trans rfl, (blk_cell BK171.out 4).trans rfl, (blk_cell BK171.out 5).trans rfl⟩ (fun hHeld => ?_)
   clear hK K
   refine norm_ (a' := ?_) ?_ ?_
   rotate_left
   · show Act.put _ (some 13) _ = _
     simp only [Act.put, List.setIfInBounds_toArray, List.set_cons_zero, List.set_cons_succ, i64_w, i32_w]
     rfl
   refine one_ (i := 3) (N := some 15) #[true, true, true, true, false, false] rfl rfl (by kernel_rfl) (by decide) (fun K hK => ?_)
   refine goes_ Try.func26 (by kernel_rfl) rfl #[.agg #[.int .i64 a1_0, .int .i64 a1_1, .int .i64 a1_2, .int .i64 a1_3, .int .i64 a1_4, .int .i64 a1_5]] (by rfl) rfl rfl (by (try simp only [List.map_toArray, List.map_cons, List.map_nil]); first | done | rfl | (simp only [List.length_drop, List.length_take]; rfl)) ?_
   with_reducible refine (skywaykeep1_short.calls a1_0 a1_1 a1_2 a1_3 a1_4 a1_5 t178 t179 t180 t181 t182 t183 _ A5.out).mono ?_
   rintro e wza3 ⟨rfl, hb⟩
   refine ⟨_, rfl, ?_⟩
   have n0_ := Aside0.mk (blk_below (g := gb170) (o := .cells #[.int .i64 a0_0, .int .i64 a0_1, .int .i64 a0_2, .int .i64 a0_3, .int .i64 a0_4, .int .i64 a0_5] 36 (0, 0)) (by (with_reducible repeat (first | refine blk_drewN ?_ _ | refine blk_drew ?_ | refine blk_alloc ?_ _)); exact BK170.out) hb)
   have n1_ := Aside0.mk (blk_below (g := gb171) (o := .cells #[.int .i64 a1_0, .int .i64 a1_1, .int .i64 a1_2, .int .i64 a1_3, .int .i64 a1_4, .int .i64 a1_5] 36 (0, 0)) (by (with_reducible repeat (first | refine blk_drewN ?_ _ | refine blk_drew ?_ | refine blk_alloc ?_ _)); exact BK171.out) hb)
   have n2_ := Aside0.mk (below_step (by repeat (first | (with_reducible first | exact HB.out | apply below_alloc | apply pw_below_drewN | apply below_drew1 | refine below_set ?_ GE170.out | refine below_set ?_ GE171.out) | exact HB.out)) hb)
   clear BK170
   clear BK171
   clear HB
   have BK170 := n0_
   have BK171 := n1_
   have HB := n2_
   clear n0_ n1_ n2_
   (try clear hb)
   (try clear hb2)
   (try clear hk)
   (try clear hi)
   refine hK.out _ _ ⟨(blk_cell BK170.out 0).trans rfl, (blk_cell BK170.out 1).trans rfl, (blk_cell BK170.out 2).trans rfl, (blk_cell BK170.out 3).trans rfl, (blk_cell BK170.out 4).trans rfl, (blk_cell BK170.out 5).trans rfl, (blk_cell BK171.out 0).trans rfl, (blk_cell BK171.out 1).trans rfl, (blk_cell BK171.out 2).trans rfl, (blk_cell BK171.out 3).trans rfl, (blk_cell BK171.out 4).trans rfl, (blk_cell BK171.out 5).trans rfl⟩ (fun hHeld => ?_)
   clear hK K
   refine norm_ (a' := ?_) ?_ ?_
   rotate_left
   · show Act.put _ (some 15) _ = _
     simp only [Act.put, List.setIfInBounds_toArray, List.set_cons_zero, List.set_cons_succ, i64_w, i32_w]
     rfl
   refine last_ (i := 4) (N := none) #[true, true, true, true, true, false] rfl rfl (by kernel_rfl) (by decide) (fun K hK => ?_)
   have hsza1 : wza3.cell? ⟨gb170, 0, none⟩ = some (.int .i64 a0_0) := (blk_cell BK170.out 0).trans rfl
   have hfsza1 := blk_frozen BK170.out 0
   have hnsza1 := NB171_170.out
   have hmsza1 := NB170_171.out
   have hsza2 : wza3.cell? ⟨gb170, 1, none⟩ = some (.int .i64 a0_1) := (blk_cell BK170.out 1).trans rfl
   have hfsza2 := blk_frozen BK170.out 1
   have hnsza2 := NB171_170.out
   have hmsza2 := NB170_171.out
   have hsza3 : wza3.cell? ⟨gb170, 2, none⟩ = some (.int .i64 a0_2) := (blk_cell BK170.out 2).trans rfl
   have hfsza3 := blk_frozen BK170.out 2
   have hnsza3 := NB171_170.out
   have hmsza3 := NB170_171.out
   have hsza4 : wza3.cell? ⟨gb170, 3, none⟩ = some (.int .i64 a0_3) := (blk_cell BK170.out 3).trans rfl
   have hfsza4 := blk_frozen BK170.out 3
   have hnsza4 := NB171_170.out
   have hmsza4 := NB170_171.out
   have hsza5 : wza3.cell? ⟨gb170, 4, none⟩ = some (.int .i64 a0_4) := (blk_cell BK170.out 4).trans rfl
   have hfsza5 := blk_frozen BK170.out 4
   have hnsza5 := NB171_170.out
   have hmsza5 := NB170_171.out
   have hsza6 : wza3.cell? ⟨gb170, 5, none⟩ = some (.int .i64 a0_5) := (blk_cell BK170.out 5).trans rfl
   have hfsza6 := blk_frozen BK170.out 5
   have hnsza6 := NB171_170.out
   have hmsza6 := NB170_171.out
   refine skip_ (w1 := ?_) (by rfl) rfl ?_ ?_
   rotate_left
   · go_simp
     rfl
   refine hK.out _ _ ?_
   clear hK K
   refine last_ (i := 5) (N := none) #[true, true, true, true, true, true] rfl rfl (by kernel_rfl) (by decide) (fun K hK => ?_)
   have hsza7 : wza3.cell? ⟨gb171, 0, none⟩ = some (.int .i64 a1_0) := (blk_cell BK171.out 0).trans rfl
   have hfsza7 := blk_frozen BK171.out 0
   have hnsza7 := NB170_171.out
   have hmsza7 := NB171_170.out
   have hsza8 : wza3.cell? ⟨gb171, 1, none⟩ = some (.int .i64 a1_1) := (blk_cell BK171.out 1).trans rfl
   have hfsza8 := blk_frozen BK171.out 1
   have hnsza8 := NB170_171.out
   have hmsza8 := NB171_170.out
   have hsza9 : wza3.cell? ⟨gb171, 2, none⟩ = some (.int .i64 a1_2) := (blk_cell BK171.out 2).trans rfl
   have hfsza9 := blk_frozen BK171.out 2
   have hnsza9 := NB170_171.out
   have hmsza9 := NB171_170.out
   have hsza10 : wza3.cell? ⟨gb171, 3, none⟩ = some (.int .i64 a1_3) := (blk_cell BK171.out 3).trans rfl
   have hfsza10 := blk_frozen BK171.out 3
   have hnsza10 := NB170_171.out
   have hmsza10 := NB171_170.out
   have hsza11 : wza3.cell? ⟨gb171, 4, none⟩ = some (.int .i64 a1_4) := (blk_cell BK171.out 4).trans rfl
   have hfsza11 := blk_frozen BK171.out 4
   have hnsza11 := NB170_171.out
   have hmsza11 := NB171_170.out
   have hsza12 : wza3.cell? ⟨gb171, 5, none⟩ = some (.int .i64 a1_5) := (blk_cell BK171.out 5).trans rfl
   have hfsza12 := blk_frozen BK171.out 5
   have hnsza12 := NB170_171.out
   have hmsza12 := NB171_170.out
   refine skip_ (w1 := ?_) (by rfl) rfl ?_ ?_
   rotate_left
   · go_simp
     rfl
   refine hK.out _ _ ?_
   clear hK K
   refine done_ (by kernel_rfl) ?_
   try go_wp2_with (first | ((with_reducible refine gate_callee (f := 20) rfl ?_); refine goesL_ (some 16) rfl rfl Try.func20 (by kernel_rfl) rfl #[] rfl (by (try simp only [List.map_toArray, List.map_cons, List.map_nil]); first | done | rfl | (simp only [List.length_drop, List.length_take]; rfl)) ?_; (with_reducible refine (skywaykeep1_motionWorks.calls k  false _ A6.out).mono ?_); rintro e wx8dfe1 ⟨rfl, hb⟩; refine ⟨_, rfl, ?_⟩; have n0_ := Aside0.mk (blk_below (g := gb170) (o := .cells #[.int .i64 t172, .int .i64 t173, .int .i64 t174, .int .i64 t175, .int .i64 t176, .int .i64 t177] 36 (0, 0)) (by (with_reducible repeat (first | refine blk_drewN ?_ _ | refine blk_drew ?_ | refine blk_alloc ?_ _)); refine blk_far ?_ NB170_171.out _; (with_reducible repeat (first | refine blk_drewN ?_ _ | refine blk_drew ?_ | refine blk_alloc ?_ _)); refine blk_far ?_ NB170_171.out _; (with_reducible repeat (first | refine blk_drewN ?_ _ | refine blk_drew ?_ | refine blk_alloc ?_ _)); refine blk_far ?_ NB170_171.out _; (with_reducible repeat (first | refine blk_drewN ?_ _ | refine blk_drew ?_ | refine blk_alloc ?_ _)); refine blk_far ?_ NB170_171.out _; (with_reducible repeat (first | refine blk_drewN ?_ _ | refine blk_drew ?_ | refine blk_alloc ?_ _)); refine blk_far ?_ NB170_171.out _; (with_reducible repeat (first | refine blk_drewN ?_ _ | refine blk_drew ?_ | refine blk_alloc ?_ _)); refine blk_far ?_ NB170_171.out _; (with_reducible repeat (first | refine blk_drewN ?_ _ | refine blk_drew ?_ | refine blk_alloc ?_ _)); refine blk_put (cs := #[.int .i64 t172, .int .i64 t173, .int .i64 t174, .int .i64 t175, .int .i64 t176, .int .i64 a0_5]) ?_ 5 _ rfl; (with_reducible repeat (first | refine blk_drewN ?_ _ | refine blk_drew ?_ | refine blk_alloc ?_ _)); refine blk_put (cs := #[.int .i64 t172, .int .i64 t173, .int .i64 t174, .int .i64 t175, .int .i64 a0_4, .int .i64 a0_5]) ?_ 4 _ rfl; (with_reducible repeat (first | refine blk_drewN ?_ _ | refine blk_drew ?_ | refine blk_alloc ?_ _)); refine blk_put (cs := #[.int .i64 t172, .int .i64 t173, .int .i64 t174, .int .i64 a0_3, .int .i64 a0_4, .int .i64 a0_5]) ?_ 3 _ rfl; (with_reducible repeat (first | refine blk_drewN ?_ _ | refine blk_drew ?_ | refine blk_alloc ?_ _)); refine blk_put (cs := #[.int .i64 t172, .int .i64 t173, .int .i64 a0_2, .int .i64 a0_3, .int .i64 a0_4, .int .i64 a0_5]) ?_ 2 _ rfl; (with_reducible repeat (first | refine blk_drewN ?_ _ | refine blk_drew ?_ | refine blk_alloc ?_ _)); refine blk_put (cs := #[.int .i64 t172, .int .i64 a0_1, .int .i64 a0_2, .int .i64 a0_3, .int .i64 a0_4, .int .i64 a0_5]) ?_ 1 _ rfl; (with_reducible repeat (first | refine blk_drewN ?_ _ | refine blk_drew ?_ | refine blk_alloc ?_ _)); refine blk_put (cs := #[.int .i64 a0_0, .int .i64 a0_1, .int .i64 a0_2, .int .i64 a0_3, .int .i64 a0_4, .int .i64 a0_5]) ?_ 0 _ rfl; (with_reducible repeat (first | refine blk_drewN ?_ _ | refine blk_drew ?_ | refine blk_alloc ?_ _)); exact BK170.out) hb); have n1_ := Aside0.mk (blk_below (g := gb171) (o := .cells #[.int .i64 t178, .int .i64 t179, .int .i64 t180, .int .i64 t181, .int .i64 t182, .int .i64 t183] 36 (0, 0)) (by (with_reducible repeat (first | refine blk_drewN ?_ _ | refine blk_drew ?_ | refine blk_alloc ?_ _)); refine blk_put (cs := #[.int .i64 t178, .int .i64 t179, .int .i64 t180, .int .i64 t181, .int .i64 t182, .int .i64 a1_5]) ?_ 5 _ rfl; (with_reducible repeat (first | refine blk_drewN ?_ _ | refine blk_drew ?_ | refine blk_alloc ?_ _)); refine blk_put (cs := #[.int .i64 t178, .int .i64 t179, .int .i64 t180, .int .i64 t181, .int .i64 a1_4, .int .i64 a1_5]) ?_ 4 _ rfl; (with_reducible repeat (first | refine blk_drewN ?_ _ | refine blk_drew ?_ | refine blk_alloc ?_ _)); refine blk_put (cs := #[.int .i64 t178, .int .i64 t179, .int .i64 t180, .int .i64 a1_3, .int .i64 a1_4, .int .i64 a1_5]) ?_ 3 _ rfl; (with_reducible repeat (first | refine blk_drewN ?_ _ | refine blk_drew ?_ | refine blk_alloc ?_ _)); refine blk_put (cs := #[.int .i64 t178, .int .i64 t179, .int .i64 a1_2, .int .i64 a1_3, .int .i64 a1_4, .int .i64 a1_5]) ?_ 2 _ rfl; (with_reducible repeat (first | refine blk_drewN ?_ _ | refine blk_drew ?_ | refine blk_alloc ?_ _)); refine blk_put (cs := #[.int .i64 t178, .int .i64 a1_1, .int .i64 a1_2, .int .i64 a1_3, .int .i64 a1_4, .int .i64 a1_5]) ?_ 1 _ rfl; (with_reducible repeat (first | refine blk_drewN ?_ _ | refine blk_drew ?_ | refine blk_alloc ?_ _)); refine blk_put (cs := #[.int .i64 a1_0, .int .i64 a1_1, .int .i64 a1_2, .int .i64 a1_3, .int .i64 a1_4, .int .i64 a1_5]) ?_ 0 _ rfl; (with_reducible repeat (first | refine blk_drewN ?_ _ | refine blk_drew ?_ | refine blk_alloc ?_ _)); refine blk_far ?_ NB171_170.out _; (with_reducible repeat (first | refine blk_drewN ?_ _ | refine blk_drew ?_ | refine blk_alloc ?_ _)); refine blk_far ?_ NB171_170.out _; (with_reducible repeat (first | refine blk_drewN ?_ _ | refine blk_drew ?_ | refine blk_alloc ?_ _)); refine blk_far ?_ NB171_170.out _; (with_reducible repeat (first | refine blk_drewN ?_ _ | refine blk_drew ?_ | refine blk_alloc ?_ _)); refine blk_far ?_ NB171_170.out _; (with_reducible repeat (first | refine blk_drewN ?_ _ | refine blk_drew ?_ | refine blk_alloc ?_ _)); refine blk_far ?_ NB171_170.out _; (with_reducible repeat (first | refine blk_drewN ?_ _ | refine blk_drew ?_ | refine blk_alloc ?_ _)); refine blk_far ?_ NB171_170.out _; (with_reducible repeat (first | refine blk_drewN ?_ _ | refine blk_drew ?_ | refine blk_alloc ?_ _)); exact BK171.out) hb); have n2_ := Aside0.mk (below_step (by repeat (first | (with_reducible first | exact HB.out | apply below_alloc | apply pw_below_drewN | apply below_drew1 | refine below_set ?_ GE170.out | refine below_set ?_ GE171.out) | exact HB.out)) hb); clear BK170; clear BK171; clear HB; have BK170 := n0_; have BK171 := n1_; have HB := n2_; clear n0_ n1_ n2_; (try clear hb); (try clear hb2); (try clear hk); (try clear hi)))
   go_ret
   exact ⟨by first | rfl | (simp [errW_none, errW_some] <;> rfl) | (simp [*, errW_none, errW_some] <;> rfl), by repeat (first | (with_reducible first | exact HB.out | apply below_alloc | apply pw_below_drewN | apply below_drew1 | refine below_set ?_ GE170.out | refine below_set ?_ GE171.out) | exact HB.out)⟩

/-- What is told of a value of struct type 25 that came in. -/
def good25 (x : S25) : Prop := ((Lit.int .i64 x.f0).wf = true) ∧ (Lit.int .i64 x.f1).wf = true
/-- What is told of a value of struct type 36 that came in. -/
def good36 (x : S36) : Prop := ((Lit.int .i64 x.f0).wf = true) ∧ ((Lit.int .i64 x.f1).wf = true) ∧ (good25 x.f2) ∧ good25 x.f3
/-- THE ONE PURE STATEMENT of skywaykeep1_MotionFirst. -/
def skywaykeep1_MotionFirst.Pure : Prop := ∀ (a0_0 : Int) (a0_1 : Int) (a0_2 : Int) (a0_3 : Int) (a0_4 : Int) (a0_5 : Int) (a1_0 : Int) (a1_1 : Int) (a1_2 : Int) (a1_3 : Int) (a1_4 : Int) (a1_5 : Int) (a2 : Int), ((Lit.int .i64 a0_0).wf = true) → ((Lit.int .i64 a0_1).wf = true) → ((Lit.int .i64 a0_2).wf = true) → ((Lit.int .i64 a0_3).wf = true) → ((Lit.int .i64 a0_4).wf = true) → ((Lit.int .i64 a0_5).wf = true) → ((Lit.int .i64 a1_0).wf = true) → ((Lit.int .i64 a1_1).wf = true) → ((Lit.int .i64 a1_2).wf = true) → ((Lit.int .i64 a1_3).wf = true) → ((Lit.int .i64 a1_4).wf = true) → ((Lit.int .i64 a1_5).wf = true) → ((Lit.int .i64 a2).wf = true) → ∃ k, skywaykeep1_MotionFirst.f k a0_0 a0_1 a0_2 a0_3 a0_4 a0_5 a1_0 a1_1 a1_2 a1_3 a1_4 a1_5 a2 = some true

end Go.Proofs.Yteaddpieonkboaa.PMotionFirst
