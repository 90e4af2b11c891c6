/- Made by a program of this session (wip/tools/myprint.py, over the kit's printer): that the Go functions answer as the Lean functions printed beside them. -/
import Derived.Test.YthpbpdobghceeaaDoorPWindLegsx0
import Derived.Test.YthpbpdobghceeaaDoorPWindLegsx2
import Derived.Test.YthpbpdobghceeaaDoorPWindLegsx3
namespace Go.Proofs.YthpbpdobghceeaaDoor.PWindLegs
open Go.RowKit Go.Proofs.YthpbpdobghceeaaDoorW.PrintWords Go.Proofs.YthpbpdobghceeaaDoorW.PrintLast Go.Proofs.YthpbpdobghceeaaDoorW.PrintMore
attribute [local go_sem] max2_int min2_int max_two min_two max_three min_three max_four min_four   -- for this text's walks alone
set_option linter.unusedVariables false
set_option linter.unusedSimpArgs false

/-! ### angle_Cos: function 13 -/
def angle_Cos.f (a0 : Int) : Option (Int) := (angle_Sin.f (wrap64 (a0 + 1024))).bind fun t119 => (some t119)
set_option maxHeartbeats 8000000 in
set_option maxRecDepth 100000 in
theorem angle_Cos.calls (a0 : Int) (r : Int) (w : World) (h : angle_Cos.f a0 = some r) (hT0 : Ang.Tab w := by exact Ang.Tab.below hT0 (by repeat (first | (with_reducible first | exact HB.out | apply below_alloc | apply pw_below_drewN | apply below_drew1) | exact HB.out | (refine Below.setCell ?_ (by dsimp only; exact Aside0.out (by assumption)) _)))) :
    Calls Tryd.prog 13 #[.int .i64 a0] w fun e w' => e = .returned (.int .i64 r) ∧ Below w.heap.size w w' := by
 have HB := Aside0.mk (Below.refl w.heap.size w)
 have H : ((angle_Sin.f (wrap64 (a0 + 1024))).bind fun t119 => (some t119)) = some r := h
 clear h
 replace H := Option.bind_eq_some_iff.mp H
 obtain ⟨t119, A20, H⟩ := H
 replace H : (some t119) = some r := H
 have A2 := Aside0.mk A20
 clear A20
 obtain rfl := Option.some.inj H
 go_enter Tryd.func13, Tryd.ntmps13
 go_wp2_with (first | ((with_reducible refine gate_callee (f := 12) rfl ?_); refine goesL_ (some 5) rfl rfl Tryd.func12 (by kernel_rfl) rfl #[.int .i64 (wrap64 (a0 + 1024))] rfl (by (try simp only [List.map_toArray, List.map_cons, List.map_nil]); first | done | rfl | (simp only [List.length_drop, List.length_take]; rfl)) ?_; (with_reducible refine (angle_Sin.calls (wrap64 (a0 + 1024)) t119 _ A2.out).mono ?_); rintro e w3 ⟨rfl, hb⟩; refine ⟨_, rfl, ?_⟩; have n0_ := Aside0.mk (below_step (by repeat (first | (with_reducible first | exact HB.out | apply below_alloc | apply pw_below_drewN | apply below_drew1) | exact HB.out)) hb); clear HB; have HB := n0_; clear n0_; (try clear hb); (try clear hb2); (try clear hk); (try clear hi)))
 go_ret
 exact ⟨by first | rfl | (simp [errW_none, errW_some] <;> rfl) | (simp [*, errW_none, errW_some] <;> rfl), by repeat (first | (with_reducible first | exact HB.out | apply below_alloc | apply pw_below_drewN | apply below_drew1) | exact HB.out)⟩

/-! ### num_DivDown: function 47 -/
def num_DivDown.j0 : Nat → Int → Int → Bool → Option (Int × Int)
  | 0, _, _, _ => none
  | k + 1, x0, x1, x10 => if x10 = true then (some (0, 2)) else (if x1 = 0 then (none) else (if (Int.tmod x0 x1) = 0 then (some (wrap64 (Int.tdiv x0 x1), 0)) else (if ((decide (x0 < 0)) != (decide (x1 < 0))) = true then (some (wrap64 ((wrap64 (Int.tdiv x0 x1)) - 1), 0)) else (some (wrap64 (Int.tdiv x0 x1), 0)))))
def num_DivDown.f (k : Nat) (a0 : Int) (a1 : Int) : Option (Int × Int) := if a1 = 0 then (some (0, 10)) else (if a0 = (-9223372036854775808) then (num_DivDown.j0 k a0 a1 (a1 == (-1))) else (num_DivDown.j0 k a0 a1 false))
theorem num_DivDown.mono_l : ∀ k, (∀ y0 y1 y2, LeO (num_DivDown.j0 k y0 y1 y2) (num_DivDown.j0 (k + 1) y0 y1 y2))
  | 0 => fun _ _ _ r h => by simp [num_DivDown.j0] at h
  | k + 1 => by
    have ih0 := num_DivDown.mono_l k
    · intro y0 y1 y2
      unfold num_DivDown.j0
      repeat' first
      | (with_reducible exact ih0 _ _ _)
      | (with_reducible exact LeO.refl _)
      | (with_reducible exact LeO.none _)
      | (with_reducible refine LeO.ite ?_ ?_)
      | (with_reducible refine LeO.bind ?_ (fun _ => ?_))
      | exact ih0 _ _ _
      | exact LeO.none _
      | refine LeO.ite ?_ ?_
      | refine LeO.bind ?_ (fun _ => ?_)
theorem num_DivDown.mono : ∀ a0 a1 k, LeO (num_DivDown.f k a0 a1) (num_DivDown.f (k + 1) a0 a1) := by
  intro a0 a1 k
  have ih0 := num_DivDown.mono_l k
  unfold num_DivDown.f
  repeat' first
      | (with_reducible exact ih0 _ _ _)
      | (with_reducible exact LeO.refl _)
      | (with_reducible exact LeO.none _)
      | (with_reducible refine LeO.ite ?_ ?_)
      | (with_reducible refine LeO.bind ?_ (fun _ => ?_))
      | exact ih0 _ _ _
      | exact LeO.none _
      | refine LeO.ite ?_ ?_
      | refine LeO.bind ?_ (fun _ => ?_)
set_option maxHeartbeats 8000000 in
set_option maxRecDepth 100000 in
theorem num_DivDown.calls (k : Nat) (a0 : Int) (a1 : Int) (r1 : Int) (r2 : Int) (w : World) (h : num_DivDown.f k a0 a1 = some (r1, r2)) :
    Calls Tryd.prog 47 #[.int .i64 a0, .int .i64 a1] w fun e w' => e = .returned (.tuple #[.int .i64 r1, .int .i64 r2]) ∧ Below w.heap.size w w' := by
 have HB := Aside0.mk (Below.refl w.heap.size w)
 have H : (if a1 = 0 then (some (0, 10)) else (if a0 = (-9223372036854775808) then (num_DivDown.j0 k a0 a1 (a1 == (-1))) else (num_DivDown.j0 k a0 a1 false))) = some (r1, r2) := h
 clear h
 refine Or.elim (Classical.em (a1 = 0)) (fun c3 => ?p2_) (fun c3 => ?n2_)
 case' p2_ =>
  rw [if_pos c3] at H
  have c3b0 : (a1 == 0) = true := beq_iff_eq.mpr c3
  have c3b1 : (a1 != 0) = false := bne_eq_false_iff_eq.mpr c3
  clear c3
  simp only [Option.some.injEq, Prod.mk.injEq] at H
  obtain ⟨rfl, rfl⟩ := H
  have hm1_0 := Aside0.mk trivial
 case' n2_ =>
  rw [if_neg c3] at H
  have c3b0 : (a1 == 0) = false := beq_eq_false_iff_ne.mpr c3
  have c3b1 : (a1 != 0) = true := bne_iff_ne.mpr c3
  have HC4 := Aside0.mk H
  clear H
  have hm1_1 := Aside0.mk trivial
 all_goals
  go_enter Tryd.func47, Tryd.ntmps47
  first
   | clear hm1_0
     go_wp2
     go_ret2
     exact ⟨by first | rfl | (simp [errW_none, errW_some] <;> rfl) | (simp [*, errW_none, errW_some] <;> rfl), by repeat (first | (with_reducible first | exact HB.out | apply below_alloc | apply pw_below_drewN | apply below_drew1) | exact HB.out)⟩
   | clear hm1_1
     go_upto_region 3 with (fail)
     go_cut [10] (fun v10 wc => ∃ (kq : Nat) (x10_3 : Bool), v10 = .bool x10_3 ∧ Aside0 (num_DivDown.j0 kq a0 a1 x10_3 = some (r1, r2)) ∧ Aside0 (kq ≤ k) ∧ Aside0 (Below w.heap.size w wc))
     case first =>
      have H := HC4.out
      clear HC4
      refine Or.elim (Classical.em (a0 = (-9223372036854775808))) (fun c5 => ?p4_) (fun c5 => ?n4_)
      case' p4_ =>
       rw [if_pos c5] at H
       have c5b0 : (a0 == (-9223372036854775808)) = true := beq_iff_eq.mpr c5
       have c5b1 : (a0 != (-9223372036854775808)) = false := bne_eq_false_iff_eq.mpr c5
       clear c5
       (first | rw [c5b0] | (simp only [i64_w, i32_w]; rw [c5b0]) | skip)
      case' n4_ =>
       rw [if_neg c5] at H
       have c5b0 : (a0 == (-9223372036854775808)) = false := beq_eq_false_iff_ne.mpr c5
       have c5b1 : (a0 != (-9223372036854775808)) = true := bne_iff_ne.mpr c5
       (first | rw [c5b0] | (simp only [i64_w, i32_w]; rw [c5b0]) | skip)
      all_goals
       have H' := Aside0.mk H
       clear H
       go_wp2
       go_meet
       case rel => first | (exact ⟨_, ((a1 == (-1))), (by first | rfl | (simp; done) | (simp [*]; done)), H', ⟨by first | omega | exact Nat.le_refl _⟩, ⟨by repeat (first | (with_reducible first | exact HB.out | apply below_alloc | apply pw_below_drewN | apply below_drew1) | exact HB.out)⟩⟩) | (exact ⟨_, (false), (by first | rfl | (simp; done) | (simp [*]; done)), H', ⟨by first | omega | exact Nat.le_refl _⟩, ⟨by repeat (first | (with_reducible first | exact HB.out | apply below_alloc | apply pw_below_drewN | apply below_drew1) | exact HB.out)⟩⟩)
     case rest =>
      clear HC4
      (try clear p2); (try clear c3); (try clear c3b0); (try clear c3b1); (try clear c4); (try clear c5); (try clear c5b0); (try clear c5b1)
      obtain ⟨kq, x10_3, rfl, HA, HJ3, HB⟩ := hcut
      cases kq with
      | zero => exact absurd HA.out (by simp [num_DivDown.j0])
      | succ kj3 =>
       have H := HA.out
       clear HA
       simp only [num_DivDown.j0] at H
       refine Or.elim (Classical.em (x10_3 = true)) (fun c6 => ?p6_) (fun c6 => ?n6_)
       case' p6_ =>
        subst c6
        have H1 : (some (0, 2)) = some (r1, r2) := by rw [if_pos rfl] at H; exact H
        clear H
        have H := H1
        clear H1
        simp only [Option.some.injEq, Prod.mk.injEq] at H
        obtain ⟨rfl, rfl⟩ := H
       case' n6_ =>
        replace c6 := Bool.eq_false_iff.mpr c6
        subst c6
        have H1 : (if a1 = 0 then (none) else (if (Int.tmod a0 a1) = 0 then (some (wrap64 (Int.tdiv a0 a1), 0)) else (if ((decide (a0 < 0)) != (decide (a1 < 0))) = true then (some (wrap64 ((wrap64 (Int.tdiv a0 a1)) - 1), 0)) else (some (wrap64 (Int.tdiv a0 a1), 0))))) = some (r1, r2) := by rw [if_neg (show ¬ (false = true) by decide)] at H; exact H
        clear H
        have H := H1
        clear H1
        refine Or.elim (Classical.em (a1 = 0)) (fun c7 => ?p7_) (fun c7 => ?n7_)
        case' p7_ =>
         rw [if_pos c7] at H
         exact absurd H (by simp)
        case' n7_ =>
         rw [if_neg c7] at H
         have c7b0 : (a1 == 0) = false := beq_eq_false_iff_ne.mpr c7
         have c7b1 : (a1 != 0) = true := bne_iff_ne.mpr c7
         refine Or.elim (Classical.em ((Int.tmod a0 a1) = 0)) (fun c8 => ?p8_) (fun c8 => ?n8_)
         case' p8_ =>
          rw [if_pos c8] at H
          have c8b0 : ((Int.tmod a0 a1) == 0) = true := beq_iff_eq.mpr c8
          have c8b1 : ((Int.tmod a0 a1) != 0) = false := bne_eq_false_iff_eq.mpr c8
          clear c8
          simp only [Option.some.injEq, Prod.mk.injEq] at H
          obtain ⟨rfl, rfl⟩ := H
         case' n8_ =>
          rw [if_neg c8] at H
          have c8b0 : ((Int.tmod a0 a1) == 0) = false := beq_eq_false_iff_ne.mpr c8
          have c8b1 : ((Int.tmod a0 a1) != 0) = true := bne_iff_ne.mpr c8
          refine Or.elim (Classical.em (((decide (a0 < 0)) != (decide (a1 < 0))) = true)) (fun c9 => ?p9_) (fun c9 => ?n9_)
          case' p9_ =>
           rw [if_pos c9] at H
           have c9b0 : ((decide (a0 < 0)) != (decide (a1 < 0))) = true := c9
           (try (have c9b1 : decide ((decide (a0 < 0)) = (decide (a1 < 0))) = false := by simpa using c9))
           (try (have c9b2 : ((decide (a0 < 0)) == (decide (a1 < 0))) = false := by simpa using c9))
           (try (have c9b3 : ¬ ((decide (a0 < 0)) = (decide (a1 < 0))) := by simpa using c9))
           clear c9
           simp only [Option.some.injEq, Prod.mk.injEq] at H
           obtain ⟨rfl, rfl⟩ := H
          case' n9_ =>
           rw [if_neg c9] at H
           have c9b0 : ((decide (a0 < 0)) != (decide (a1 < 0))) = false := by simpa using c9
           (try (have c9b1 : decide ((decide (a0 < 0)) = (decide (a1 < 0))) = true := by simpa using c9))
           (try (have c9b2 : ((decide (a0 < 0)) == (decide (a1 < 0))) = true := by simpa using c9))
           clear c9
           simp only [Option.some.injEq, Prod.mk.injEq] at H
           obtain ⟨rfl, rfl⟩ := H
       all_goals
        go_wp2
        go_ret2
        exact ⟨by first | rfl | (simp [errW_none, errW_some] <;> rfl) | (simp [*, errW_none, errW_some] <;> rfl), by repeat (first | (with_reducible first | exact HB.out | apply below_alloc | apply pw_below_drewN | apply below_drew1) | exact HB.out)⟩

/-! ### num_DivUp: function 36 -/
def num_DivUp.f (k : Nat) (a0 : Int) (a1 : Int) : Option (Int × Int) := (num_DivDown.f k a0 a1).bind fun bt120 => (if bt120.2 = 0 then (if a1 = 0 then (none) else (if (Int.tmod a0 a1) = 0 then (some (bt120.1, bt120.2)) else (some (wrap64 (bt120.1 + 1), bt120.2)))) else (some (bt120.1, bt120.2)))
theorem num_DivUp.mono : ∀ a0 a1 k, LeO (num_DivUp.f k a0 a1) (num_DivUp.f (k + 1) a0 a1) := by
  intro a0 a1 k
  unfold num_DivUp.f
  repeat' first
      | (with_reducible exact num_DivDown.mono _ _ _)
      | (with_reducible exact LeO.refl _)
      | (with_reducible exact LeO.none _)
      | (with_reducible refine LeO.ite ?_ ?_)
      | (with_reducible refine LeO.bind ?_ (fun _ => ?_))
      | exact num_DivDown.mono _ _ _
      | exact LeO.none _
      | refine LeO.ite ?_ ?_
      | refine LeO.bind ?_ (fun _ => ?_)
set_option maxHeartbeats 8000000 in
set_option maxRecDepth 100000 in
theorem num_DivUp.calls (k : Nat) (a0 : Int) (a1 : Int) (r1 : Int) (r2 : Int) (w : World) (h : num_DivUp.f k a0 a1 = some (r1, r2)) :
    Calls Tryd.prog 36 #[.int .i64 a0, .int .i64 a1] w fun e w' => e = .returned (.tuple #[.int .i64 r1, .int .i64 r2]) ∧ Below w.heap.size w w' := by
 have HB := Aside0.mk (Below.refl w.heap.size w)
 have H : ((num_DivDown.f k a0 a1).bind fun bt120 => (if bt120.2 = 0 then (if a1 = 0 then (none) else (if (Int.tmod a0 a1) = 0 then (some (bt120.1, bt120.2)) else (some (wrap64 (bt120.1 + 1), bt120.2)))) else (some (bt120.1, bt120.2)))) = some (r1, r2) := h
 clear h
 replace H := Option.bind_eq_some_iff.mp H
 obtain ⟨⟨t120, t121⟩, A30, H⟩ := H
 replace H : (if t121 = 0 then (if a1 = 0 then (none) else (if (Int.tmod a0 a1) = 0 then (some (t120, t121)) else (some (wrap64 (t120 + 1), t121)))) else (some (t120, t121))) = some (r1, r2) := H
 have A3 := Aside0.mk A30
 clear A30
 refine Or.elim (Classical.em (t121 = 0)) (fun c4 => ?p2_) (fun c4 => ?n2_)
 case' p2_ =>
  rw [if_pos c4] at H
  have c4b0 : (t121 == 0) = true := beq_iff_eq.mpr c4
  have c4b1 : (t121 != 0) = false := bne_eq_false_iff_eq.mpr c4
  clear c4
  refine Or.elim (Classical.em (a1 = 0)) (fun c5 => ?p3_) (fun c5 => ?n3_)
  case' p3_ =>
   rw [if_pos c5] at H
   exact absurd H (by simp)
  case' n3_ =>
   rw [if_neg c5] at H
   have c5b0 : (a1 == 0) = false := beq_eq_false_iff_ne.mpr c5
   have c5b1 : (a1 != 0) = true := bne_iff_ne.mpr c5
   refine Or.elim (Classical.em ((Int.tmod a0 a1) = 0)) (fun c6 => ?p4_) (fun c6 => ?n4_)
   case' p4_ =>
    rw [if_pos c6] at H
    have c6b0 : ((Int.tmod a0 a1) == 0) = true := beq_iff_eq.mpr c6
    have c6b1 : ((Int.tmod a0 a1) != 0) = false := bne_eq_false_iff_eq.mpr c6
    clear c6
    simp only [Option.some.injEq, Prod.mk.injEq] at H
    obtain ⟨rfl, rfl⟩ := H
   case' n4_ =>
    rw [if_neg c6] at H
    have c6b0 : ((Int.tmod a0 a1) == 0) = false := beq_eq_false_iff_ne.mpr c6
    have c6b1 : ((Int.tmod a0 a1) != 0) = true := bne_iff_ne.mpr c6
    simp only [Option.some.injEq, Prod.mk.injEq] at H
    obtain ⟨rfl, rfl⟩ := H
 case' n2_ =>
  rw [if_neg c4] at H
  have c4b0 : (t121 == 0) = false := beq_eq_false_iff_ne.mpr c4
  have c4b1 : (t121 != 0) = true := bne_iff_ne.mpr c4
  simp only [Option.some.injEq, Prod.mk.injEq] at H
  obtain ⟨rfl, rfl⟩ := H
 all_goals
  go_enter Tryd.func36, Tryd.ntmps36
  go_wp2_with (first | ((with_reducible refine gate_callee (f := 47) rfl ?_); refine goesL_ (some 11) rfl rfl Tryd.func47 (by kernel_rfl) rfl #[.int .i64 a0, .int .i64 a1] rfl (by (try simp only [List.map_toArray, List.map_cons, List.map_nil]); first | done | rfl | (simp only [List.length_drop, List.length_take]; rfl)) ?_; (with_reducible refine (num_DivDown.calls k a0 a1 t120 t121 _ A3.out).mono ?_); rintro e wx87d41 ⟨rfl, hb⟩; refine ⟨_, rfl, ?_⟩; have n0_ := Aside0.mk (below_step (by repeat (first | (with_reducible first | exact HB.out | apply below_alloc | apply pw_below_drewN | apply below_drew1) | exact HB.out)) hb); clear HB; have HB := n0_; clear n0_; (try clear hb); (try clear hb2); (try clear hk); (try clear hi)))
  go_ret2
  exact ⟨by first | rfl | (simp [errW_none, errW_some] <;> rfl) | (simp [*, errW_none, errW_some] <;> rfl), by repeat (first | (with_reducible first | exact HB.out | apply below_alloc | apply pw_below_drewN | apply below_drew1) | exact HB.out)⟩

/-! ### wind_ground: function 32 -/
def wind_ground.f (k : Nat) (a0 : Int) (a1 : Int) (a2_0 : Int) (a2_1 : Int) (a2_2 : Int) (a2_3 : Int) (a2_4 : Int) : Option (Int × Int) := (angle_Sin.f a1).bind fun t123 => ((angle_Cos.f a1).bind fun t124 => ((num_DivDown.f k (wrap64 ((wrap64 ((wrap64 (a2_2 * t123)) + (wrap64 (a2_3 * t124)))) - (wrap64 (a2_4 * (wrap64 ((mx t123 (wrap64 (-t123))) + (mx t124 (wrap64 (-t124))))))))) 16384).bind fun bt125 => ((num_DivUp.f k (wrap64 ((wrap64 ((wrap64 (a2_2 * t123)) + (wrap64 (a2_3 * t124)))) + (wrap64 (a2_4 * (wrap64 ((mx t123 (wrap64 (-t123))) + (mx t124 (wrap64 (-t124))))))))) 16384).bind fun bt127 => (some (mx 1 (wrap64 (a0 + bt125.1)), mx 1 (wrap64 (a0 + bt127.1)))))))
theorem wind_ground.mono : ∀ a0 a1 a2 a3 a4 a5 a6 k, LeO (wind_ground.f k a0 a1 a2 a3 a4 a5 a6) (wind_ground.f (k + 1) a0 a1 a2 a3 a4 a5 a6) := by
  intro a0 a1 a2 a3 a4 a5 a6 k
  unfold wind_ground.f
  repeat' first
      | (with_reducible exact num_DivDown.mono _ _ _)
      | (with_reducible exact num_DivUp.mono _ _ _)
      | (with_reducible exact LeO.refl _)
      | (with_reducible exact LeO.none _)
      | (with_reducible refine LeO.ite ?_ ?_)
      | (with_reducible refine LeO.bind ?_ (fun _ => ?_))
      | exact num_DivDown.mono _ _ _
      | exact num_DivUp.mono _ _ _
      | exact LeO.none _
      | refine LeO.ite ?_ ?_
      | refine LeO.bind ?_ (fun _ => ?_)
set_option maxHeartbeats 8000000 in
set_option maxRecDepth 100000 in
theorem wind_ground.calls (k : Nat) (a0 : Int) (a1 : Int) (a2_0 : Int) (a2_1 : Int) (a2_2 : Int) (a2_3 : Int) (a2_4 : Int) (r1 : Int) (r2 : Int) (w : World) (h : wind_ground.f k a0 a1 a2_0 a2_1 a2_2 a2_3 a2_4 = some (r1, r2)) (hT0 : Ang.Tab w := by exact Ang.Tab.below hT0 (by repeat (first | (with_reducible first | exact HB.out | apply below_alloc | apply pw_below_drewN | apply below_drew1) | exact HB.out | (refine Below.setCell ?_ (by dsimp only; exact Aside0.out (by assumption)) _)))) :
    Calls Tryd.prog 32 #[.int .i64 a0, .int .i64 a1, .agg #[.int .i64 a2_0, .int .i64 a2_1, .int .i64 a2_2, .int .i64 a2_3, .int .i64 a2_4]] w fun e w' => e = .returned (.tuple #[.int .i64 r1, .int .i64 r2]) ∧ Below w.heap.size w w' := by
 have hu38 := Tryd.underlying38
 have HB := Aside0.mk (Below.refl w.heap.size w)
 have H : ((angle_Sin.f a1).bind fun t123 => ((angle_Cos.f a1).bind fun t124 => ((num_DivDown.f k (wrap64 ((wrap64 ((wrap64 (a2_2 * t123)) + (wrap64 (a2_3 * t124)))) - (wrap64 (a2_4 * (wrap64 ((mx t123 (wrap64 (-t123))) + (mx t124 (wrap64 (-t124))))))))) 16384).bind fun bt125 => ((num_DivUp.f k (wrap64 ((wrap64 ((wrap64 (a2_2 * t123)) + (wrap64 (a2_3 * t124)))) + (wrap64 (a2_4 * (wrap64 ((mx t123 (wrap64 (-t123))) + (mx t124 (wrap64 (-t124))))))))) 16384).bind fun bt127 => (some (mx 1 (wrap64 (a0 + bt125.1)), mx 1 (wrap64 (a0 + bt127.1)))))))) = some (r1, r2) := h
 clear h
 replace H := Option.bind_eq_some_iff.mp H
 obtain ⟨t123, A40, H⟩ := H
 replace H : ((angle_Cos.f a1).bind fun t124 => ((num_DivDown.f k (wrap64 ((wrap64 ((wrap64 (a2_2 * t123)) + (wrap64 (a2_3 * t124)))) - (wrap64 (a2_4 * (wrap64 ((mx t123 (wrap64 (-t123))) + (mx t124 (wrap64 (-t124))))))))) 16384).bind fun bt125 => ((num_DivUp.f k (wrap64 ((wrap64 ((wrap64 (a2_2 * t123)) + (wrap64 (a2_3 * t124)))) + (wrap64 (a2_4 * (wrap64 ((mx t123 (wrap64 (-t123))) + (mx t124 (wrap64 (-t124))))))))) 16384).bind fun bt127 => (some (mx 1 (wrap64 (a0 + bt125.1)), mx 1 (wrap64 (a0 + bt127.1))))))) = some (r1, r2) := H
 have A4 := Aside0.mk A40
 clear A40
 replace H := Option.bind_eq_some_iff.mp H
 obtain ⟨t124, A50, H⟩ := H
 replace H : ((num_DivDown.f k (wrap64 ((wrap64 ((wrap64 (a2_2 * t123)) + (wrap64 (a2_3 * t124)))) - (wrap64 (a2_4 * (wrap64 ((mx t123 (wrap64 (-t123))) + (mx t124 (wrap64 (-t124))))))))) 16384).bind fun bt125 => ((num_DivUp.f k (wrap64 ((wrap64 ((wrap64 (a2_2 * t123)) + (wrap64 (a2_3 * t124)))) + (wrap64 (a2_4 * (wrap64 ((mx t123 (wrap64 (-t123))) + (mx t124 (wrap64 (-t124))))))))) 16384).bind fun bt127 => (some (mx 1 (wrap64 (a0 + bt125.1)), mx 1 (wrap64 (a0 + bt127.1)))))) = some (r1, r2) := H
 have A5 := Aside0.mk A50
 clear A50
 obtain ⟨ji6, hji6⟩ : ∃ j_ : Int, (mx t123 (wrap64 (-t123))) = j_ := ⟨_, rfl⟩
 replace H : ((num_DivDown.f k (wrap64 ((wrap64 ((wrap64 (a2_2 * t123)) + (wrap64 (a2_3 * t124)))) - (wrap64 (a2_4 * (wrap64 ((ji6) + (mx t124 (wrap64 (-t124))))))))) 16384).bind fun bt125 => ((num_DivUp.f k (wrap64 ((wrap64 ((wrap64 (a2_2 * t123)) + (wrap64 (a2_3 * t124)))) + (wrap64 (a2_4 * (wrap64 ((ji6) + (mx t124 (wrap64 (-t124))))))))) 16384).bind fun bt127 => (some (mx 1 (wrap64 (a0 + bt125.1)), mx 1 (wrap64 (a0 + bt127.1)))))) = some (r1, r2) := by first | (rw [hji6] at H; exact H) | (simp only [hji6] at H ⊢; exact H)
 (try rw [hji6] at A4)
 (try rw [hji6] at A5)
 have hji6_ : (if t123 < (wrap64 (-t123)) then (wrap64 (-t123)) else t123) = ji6 := hji6
 obtain ⟨ji7, hji7⟩ : ∃ j_ : Int, (mx t124 (wrap64 (-t124))) = j_ := ⟨_, rfl⟩
 replace H : ((num_DivDown.f k (wrap64 ((wrap64 ((wrap64 (a2_2 * t123)) + (wrap64 (a2_3 * t124)))) - (wrap64 (a2_4 * (wrap64 ((ji6) + (ji7))))))) 16384).bind fun bt125 => ((num_DivUp.f k (wrap64 ((wrap64 ((wrap64 (a2_2 * t123)) + (wrap64 (a2_3 * t124)))) + (wrap64 (a2_4 * (wrap64 ((ji6) + (ji7))))))) 16384).bind fun bt127 => (some (mx 1 (wrap64 (a0 + bt125.1)), mx 1 (wrap64 (a0 + bt127.1)))))) = some (r1, r2) := by first | (rw [hji7] at H; exact H) | (simp only [hji7] at H ⊢; exact H)
 (try rw [hji7] at A4)
 (try rw [hji7] at A5)
 have hji7_ : (if t124 < (wrap64 (-t124)) then (wrap64 (-t124)) else t124) = ji7 := hji7
 replace H := Option.bind_eq_some_iff.mp H
 obtain ⟨⟨t125, t126⟩, A80, H⟩ := H
 replace H : ((num_DivUp.f k (wrap64 ((wrap64 ((wrap64 (a2_2 * t123)) + (wrap64 (a2_3 * t124)))) + (wrap64 (a2_4 * (wrap64 ((ji6) + (ji7))))))) 16384).bind fun bt127 => (some (mx 1 (wrap64 (a0 + t125)), mx 1 (wrap64 (a0 + bt127.1))))) = some (r1, r2) := H
 have A8 := Aside0.mk A80
 clear A80
 replace H := Option.bind_eq_some_iff.mp H
 obtain ⟨⟨t127, t128⟩, A90, H⟩ := H
 replace H : (some (mx 1 (wrap64 (a0 + t125)), mx 1 (wrap64 (a0 + t127)))) = some (r1, r2) := H
 have A9 := Aside0.mk A90
 clear A90
 obtain ⟨ji10, hji10⟩ : ∃ j_ : Int, (mx 1 (wrap64 (a0 + t125))) = j_ := ⟨_, rfl⟩
 replace H : (some (ji10, mx 1 (wrap64 (a0 + t127)))) = some (r1, r2) := by first | (rw [hji10] at H; exact H) | (simp only [hji10] at H ⊢; exact H)
 (try rw [hji10] at A4)
 (try rw [hji10] at A5)
 (try rw [hji10] at A8)
 (try rw [hji10] at A9)
 (try (have hji10l : 1 ≤ ji10 := by (rw [← hji10]; unfold mx; (repeat' split) <;> omega)))
 (try (have hji10m : 0 ≤ ji10 := by omega))
 have hji10_ : (if 1 < (wrap64 (a0 + t125)) then (wrap64 (a0 + t125)) else 1) = ji10 := hji10
 obtain ⟨ji11, hji11⟩ : ∃ j_ : Int, (mx 1 (wrap64 (a0 + t127))) = j_ := ⟨_, rfl⟩
 replace H : (some (ji10, ji11)) = some (r1, r2) := by first | (rw [hji11] at H; exact H) | (simp only [hji11] at H ⊢; exact H)
 (try rw [hji11] at A4)
 (try rw [hji11] at A5)
 (try rw [hji11] at A8)
 (try rw [hji11] at A9)
 (try (have hji11l : 1 ≤ ji11 := by (rw [← hji11]; unfold mx; (repeat' split) <;> omega)))
 (try (have hji11m : 0 ≤ ji11 := by omega))
 have hji11_ : (if 1 < (wrap64 (a0 + t127)) then (wrap64 (a0 + t127)) else 1) = ji11 := hji11
 simp only [Option.some.injEq, Prod.mk.injEq] at H
 obtain ⟨rfl, rfl⟩ := H
 go_enter Tryd.func32, Tryd.ntmps32
 go_wp2_with (first | ((with_reducible refine gate_dst (N := 5) rfl ?_); refine box_event ?hg (N := 5) ?hd (cs := #[.int .i64 a2_0, .int .i64 a2_1, .int .i64 a2_2, .int .i64 a2_3, .int .i64 a2_4]) (t := 38) ?hr ?_; (case hd => rfl); (case hg => rfl); (case hr => first | (go_simp; done) | (go_simp; rfl)); intro gb122 hg w12 hbox hb; have n0_ := Aside0.mk (below_step (by repeat (first | (with_reducible first | exact HB.out | apply below_alloc | apply pw_below_drewN | apply below_drew1) | exact HB.out)) hb); have n1_ := Aside0.mk (hbox); have n2_ := Aside0.mk ((by rw [hg]; exact (below_size (by repeat (first | (with_reducible first | exact HB.out | apply below_alloc | apply pw_below_drewN | apply below_drew1) | exact HB.out))) : w.heap.size ≤ gb122)); have n3_ := Aside0.mk ((by rw [hg]; exact (below_size (by repeat (first | (with_reducible first | exact HB.out | apply below_alloc | apply pw_below_drewN | apply below_drew1) | exact HB.out))) : w.heap.size ≤ gb122)); clear HB; have HB := n0_; have BK122 := n1_; have GW122 := n2_; have GE122 := n3_; clear n0_ n1_ n2_ n3_; clear hb hbox hg) | ((with_reducible refine gate_callee (f := 12) rfl ?_); refine goesL_ (some 17) rfl rfl Tryd.func12 (by kernel_rfl) rfl #[.int .i64 a1] rfl (by (try simp only [List.map_toArray, List.map_cons, List.map_nil]); first | done | rfl | (simp only [List.length_drop, List.length_take]; rfl)) ?_; (with_reducible refine (angle_Sin.calls a1 t123 _ A4.out).mono ?_); rintro e w13 ⟨rfl, hb⟩; refine ⟨_, rfl, ?_⟩; have n0_ := Aside0.mk (blk_below (g := gb122) (o := .cells #[.int .i64 a2_0, .int .i64 a2_1, .int .i64 a2_2, .int .i64 a2_3, .int .i64 a2_4] 38 (0, 0)) (by (with_reducible repeat (first | refine blk_drewN ?_ _ | refine blk_drew ?_ | refine blk_alloc ?_ _)); exact BK122.out) hb); have n1_ := Aside0.mk (below_step (by repeat (first | (with_reducible first | exact HB.out | apply below_alloc | apply pw_below_drewN | apply below_drew1 | refine below_set ?_ GE122.out) | exact HB.out)) hb); clear BK122; clear HB; have BK122 := n0_; have HB := n1_; clear n0_ n1_; (try clear hb); (try clear hb2); (try clear hk); (try clear hi)) | ((with_reducible refine gate_callee (f := 13) rfl ?_); refine goesL_ (some 19) rfl rfl Tryd.func13 (by kernel_rfl) rfl #[.int .i64 a1] rfl (by (try simp only [List.map_toArray, List.map_cons, List.map_nil]); first | done | rfl | (simp only [List.length_drop, List.length_take]; rfl)) ?_; (with_reducible refine (angle_Cos.calls a1 t124 _ A5.out).mono ?_); rintro e w14 ⟨rfl, hb⟩; refine ⟨_, rfl, ?_⟩; have n0_ := Aside0.mk (blk_below (g := gb122) (o := .cells #[.int .i64 a2_0, .int .i64 a2_1, .int .i64 a2_2, .int .i64 a2_3, .int .i64 a2_4] 38 (0, 0)) (by (with_reducible repeat (first | refine blk_drewN ?_ _ | refine blk_drew ?_ | refine blk_alloc ?_ _)); exact BK122.out) hb); have n1_ := Aside0.mk (below_step (by repeat (first | (with_reducible first | exact HB.out | apply below_alloc | apply pw_below_drewN | apply below_drew1 | refine below_set ?_ GE122.out) | exact HB.out)) hb); clear BK122; clear HB; have BK122 := n0_; have HB := n1_; clear n0_ n1_; (try clear hb); (try clear hb2); (try clear hk); (try clear hi); have hcz15_0 : w14.cell? ⟨gb122, 0, none⟩ = some (.int .i64 a2_0) := (blk_cell BK122.out 0).trans rfl; have hcz15_1 : w14.cell? ⟨gb122, 1, none⟩ = some (.int .i64 a2_1) := (blk_cell BK122.out 1).trans rfl; have hcz15_2 : w14.cell? ⟨gb122, 2, none⟩ = some (.int .i64 a2_2) := (blk_cell BK122.out 2).trans rfl; have hcz15_3 : w14.cell? ⟨gb122, 3, none⟩ = some (.int .i64 a2_3) := (blk_cell BK122.out 3).trans rfl; have hcz15_4 : w14.cell? ⟨gb122, 4, none⟩ = some (.int .i64 a2_4) := (blk_cell BK122.out 4).trans rfl; have hfz15_0 := blk_frozen BK122.out 0; have hfz15_1 := blk_frozen BK122.out 1; have hfz15_2 := blk_frozen BK122.out 2; have hfz15_3 := blk_frozen BK122.out 3; have hfz15_4 := blk_frozen BK122.out 4) | ((with_reducible refine gate_callee (f := 47) rfl ?_); refine goesL_ (some 47) rfl rfl Tryd.func47 (by kernel_rfl) rfl #[.int .i64 (wrap64 ((wrap64 ((wrap64 (a2_2 * t123)) + (wrap64 (a2_3 * t124)))) - (wrap64 (a2_4 * (wrap64 ((ji6) + (ji7))))))), .int .i64 16384] rfl (by (try simp only [List.map_toArray, List.map_cons, List.map_nil]); first | done | (simp only [hji6, hji7]; rfl) | rfl | (simp only [List.length_drop, List.length_take]; rfl)) ?_; (with_reducible refine (num_DivDown.calls k (wrap64 ((wrap64 ((wrap64 (a2_2 * t123)) + (wrap64 (a2_3 * t124)))) - (wrap64 (a2_4 * (wrap64 ((ji6) + (ji7))))))) 16384 t125 t126 _ A8.out).mono ?_); rintro e w16 ⟨rfl, hb⟩; refine ⟨_, rfl, ?_⟩; have n0_ := Aside0.mk (blk_below (g := gb122) (o := .cells #[.int .i64 a2_0, .int .i64 a2_1, .int .i64 a2_2, .int .i64 a2_3, .int .i64 a2_4] 38 (0, 0)) (by (with_reducible repeat (first | refine blk_drewN ?_ _ | refine blk_drew ?_ | refine blk_alloc ?_ _)); exact BK122.out) hb); have n1_ := Aside0.mk (below_step (by repeat (first | (with_reducible first | exact HB.out | apply below_alloc | apply pw_below_drewN | apply below_drew1 | refine below_set ?_ GE122.out) | exact HB.out)) hb); clear BK122; clear HB; have BK122 := n0_; have HB := n1_; clear n0_ n1_; (try clear hb); (try clear hb2); (try clear hk); (try clear hi)) | ((with_reducible refine gate_callee (f := 36) rfl ?_); refine goesL_ (some 54) rfl rfl Tryd.func36 (by kernel_rfl) rfl #[.int .i64 (wrap64 ((wrap64 ((wrap64 (a2_2 * t123)) + (wrap64 (a2_3 * t124)))) + (wrap64 (a2_4 * (wrap64 ((ji6) + (ji7))))))), .int .i64 16384] rfl (by (try simp only [List.map_toArray, List.map_cons, List.map_nil]); first | done | (simp only [hji6, hji7]; rfl) | rfl | (simp only [List.length_drop, List.length_take]; rfl)) ?_; (with_reducible refine (num_DivUp.calls k (wrap64 ((wrap64 ((wrap64 (a2_2 * t123)) + (wrap64 (a2_3 * t124)))) + (wrap64 (a2_4 * (wrap64 ((ji6) + (ji7))))))) 16384 t127 t128 _ A9.out).mono ?_); rintro e w17 ⟨rfl, hb⟩; refine ⟨_, rfl, ?_⟩; have n0_ := Aside0.mk (blk_below (g := gb122) (o := .cells #[.int .i64 a2_0, .int .i64 a2_1, .int .i64 a2_2, .int .i64 a2_3, .int .i64 a2_4] 38 (0, 0)) (by (with_reducible repeat (first | refine blk_drewN ?_ _ | refine blk_drew ?_ | refine blk_alloc ?_ _)); exact BK122.out) hb); have n1_ := Aside0.mk (below_step (by repeat (first | (with_reducible first | exact HB.out | apply below_alloc | apply pw_below_drewN | apply below_drew1 | refine below_set ?_ GE122.out) | exact HB.out)) hb); clear BK122; clear HB; have BK122 := n0_; have HB := n1_; clear n0_ n1_; (try clear hb); (try clear hb2); (try clear hk); (try clear hi)))
 go_ret2
 exact ⟨by first | rfl | (simp [errW_none, errW_some] <;> rfl) | (simp only [← hji6, ← hji7, ← hji10, ← hji11]; first | rfl | (simp [errW_none, errW_some] <;> rfl)) | (simp [*, errW_none, errW_some] <;> rfl), by repeat (first | (with_reducible first | exact HB.out | apply below_alloc | apply pw_below_drewN | apply below_drew1 | refine below_set ?_ GE122.out) | exact HB.out)⟩

/-! ### wind_Ground: function 20 -/
def wind_Ground.f (k : Nat) (a0 : Int) (a1 : Int) (a2_0 : Int) (a2_1 : Int) (a2_2 : Int) (a2_3 : Int) (a2_4 : Int) : Option (Int × Int × Int) := (wind_Check.f k (([(⟨a2_0, a2_1, (⟨a2_2, a2_3⟩ : S28), a2_4⟩ : S38)] : List (S38)))).bind fun t133 => (if t133 = 0 then (if a0 < 1 then (some (0, 0, 4)) else (if a0 > 400 then (some (0, 0, 4)) else ((wind_ground.f k a0 a1 a2_0 a2_1 a2_2 a2_3 a2_4).bind fun bt134 => (some (bt134.1, bt134.2, 0))))) else (some (0, 0, t133)))
theorem wind_Ground.mono : ∀ a0 a1 a2 a3 a4 a5 a6 k, LeO (wind_Ground.f k a0 a1 a2 a3 a4 a5 a6) (wind_Ground.f (k + 1) a0 a1 a2 a3 a4 a5 a6) := by
  intro a0 a1 a2 a3 a4 a5 a6 k
  unfold wind_Ground.f
  repeat' first
      | (with_reducible exact wind_Check.mono _ _)
      | (with_reducible exact wind_ground.mono _ _ _ _ _ _ _ _)
      | (with_reducible exact LeO.refl _)
      | (with_reducible exact LeO.none _)
      | (with_reducible refine LeO.ite ?_ ?_)
      | (with_reducible refine LeO.bind ?_ (fun _ => ?_))
      | exact wind_Check.mono _ _
      | exact wind_ground.mono _ _ _ _ _ _ _ _
      | exact LeO.none _
      | refine LeO.ite ?_ ?_
      | refine LeO.bind ?_ (fun _ => ?_)
set_option maxHeartbeats 8000000 in
set_option maxRecDepth 100000 in
theorem wind_Ground.calls (k : Nat) (a0 : Int) (a1 : Int) (a2_0 : Int) (a2_1 : Int) (a2_2 : Int) (a2_3 : Int) (a2_4 : Int) (r1 : Int) (r2 : Int) (r3 : Int) (w : World) (h : wind_Ground.f k a0 a1 a2_0 a2_1 a2_2 a2_3 a2_4 = some (r1, r2, r3)) (hT0 : Ang.Tab w := by exact Ang.Tab.below hT0 (by repeat (first | (with_reducible first | exact HB.out | apply below_alloc | apply pw_below_drewN | apply below_drew1) | exact HB.out | (refine Below.setCell ?_ (by dsimp only; exact Aside0.out (by assumption)) _)))) :
    Calls Tryd.prog 20 #[.int .i64 a0, .int .i64 a1, .agg #[.int .i64 a2_0, .int .i64 a2_1, .int .i64 a2_2, .int .i64 a2_3, .int .i64 a2_4]] w fun e w' => e = .returned (.tuple #[.int .i64 r1, .int .i64 r2, .int .i64 r3]) ∧ Below w.heap.size w w' := by
 have hu38 := Tryd.underlying38
 have HB := Aside0.mk (Below.refl w.heap.size w)
 have H : ((wind_Check.f k (([(⟨a2_0, a2_1, (⟨a2_2, a2_3⟩ : S28), a2_4⟩ : S38)] : List (S38)))).bind fun t133 => (if t133 = 0 then (if a0 < 1 then (some (0, 0, 4)) else (if a0 > 400 then (some (0, 0, 4)) else ((wind_ground.f k a0 a1 a2_0 a2_1 a2_2 a2_3 a2_4).bind fun bt134 => (some (bt134.1, bt134.2, 0))))) else (some (0, 0, t133)))) = some (r1, r2, r3) := h
 clear h
 obtain ⟨y130, hy130⟩ : ∃ y_ : List (S38), y_ = (([(⟨a2_0, a2_1, (⟨a2_2, a2_3⟩ : S28), a2_4⟩ : S38)] : List (S38))) := ⟨_, rfl⟩
 replace H : ((wind_Check.f k y130).bind fun t133 => (if t133 = 0 then (if a0 < 1 then (some (0, 0, 4)) else (if a0 > 400 then (some (0, 0, 4)) else ((wind_ground.f k a0 a1 a2_0 a2_1 a2_2 a2_3 a2_4).bind fun bt134 => (some (bt134.1, bt134.2, 0))))) else (some (0, 0, t133)))) = some (r1, r2, r3) := by first | (rw [hy130]; with_reducible exact H) | (have H2_ := (Option.bind_some _ _).symm.trans H; rw [hy130]; with_reducible exact H2_) | (have H2_ := (Option.bind_some _ _).symm.trans H; with_reducible exact H2_) | with_reducible exact H | (rw [hy130]; exact H) | exact H
 have Ny130 := Aside0.mk hy130
 clear hy130
 replace H := Option.bind_eq_some_iff.mp H
 obtain ⟨t133, A40, H⟩ := H
 replace H : (if t133 = 0 then (if a0 < 1 then (some (0, 0, 4)) else (if a0 > 400 then (some (0, 0, 4)) else ((wind_ground.f k a0 a1 a2_0 a2_1 a2_2 a2_3 a2_4).bind fun bt134 => (some (bt134.1, bt134.2, 0))))) else (some (0, 0, t133))) = some (r1, r2, r3) := H
 have A4 := Aside0.mk A40
 clear A40
 refine Or.elim (Classical.em (t133 = 0)) (fun c5 => ?p2_) (fun c5 => ?n2_)
 case' p2_ =>
  rw [if_pos c5] at H
  have c5b0 : (t133 == 0) = true := beq_iff_eq.mpr c5
  have c5b1 : (t133 != 0) = false := bne_eq_false_iff_eq.mpr c5
  clear c5
  refine Or.elim (Classical.em (a0 < 1)) (fun c6 => ?p3_) (fun c6 => ?n3_)
  case' p3_ =>
   rw [if_pos c6] at H
   have c6b0 : decide (a0 < 1) = true := decide_eq_true c6
   clear c6
   simp only [Option.some.injEq, Prod.mk.injEq] at H
   obtain ⟨rfl, rfl, rfl⟩ := H
  case' n3_ =>
   rw [if_neg c6] at H
   have c6b0 : decide (a0 < 1) = false := decide_eq_false c6
   clear c6
   refine Or.elim (Classical.em (a0 > 400)) (fun c13 => ?p4_) (fun c13 => ?n4_)
   case' p4_ =>
    rw [if_pos c13] at H
    have c13b0 : decide (400 < a0) = true := decide_eq_true c13
    clear c13
    simp only [Option.some.injEq, Prod.mk.injEq] at H
    obtain ⟨rfl, rfl, rfl⟩ := H
   case' n4_ =>
    rw [if_neg c13] at H
    have c13b0 : decide (400 < a0) = false := decide_eq_false c13
    clear c13
    replace H := Option.bind_eq_some_iff.mp H
    obtain ⟨⟨t134, t135⟩, A200, H⟩ := H
    replace H : (some (t134, t135, 0)) = some (r1, r2, r3) := H
    have A20 := Aside0.mk A200
    clear A200
    simp only [Option.some.injEq, Prod.mk.injEq] at H
    obtain ⟨rfl, rfl, rfl⟩ := H
 case' n2_ =>
  rw [if_neg c5] at H
  have c5b0 : (t133 == 0) = false := beq_eq_false_iff_ne.mpr c5
  have c5b1 : (t133 != 0) = true := bne_iff_ne.mpr c5
  simp only [Option.some.injEq, Prod.mk.injEq] at H
  obtain ⟨rfl, rfl, rfl⟩ := H
 all_goals
  go_enter Tryd.func20, Tryd.ntmps20
  go_wp2_with (first | ((with_reducible refine gate_dst (N := 5) rfl ?_); refine box_event ?hg (N := 5) ?hd (cs := #[.int .i64 a2_0, .int .i64 a2_1, .int .i64 a2_2, .int .i64 a2_3, .int .i64 a2_4]) (t := 38) ?hr ?_; (case hd => rfl); (case hg => rfl); (case hr => first | (go_simp; done) | (go_simp; rfl)); intro gb129 hg wx23c41 hbox hb; have n0_ := Aside0.mk (below_step (by repeat (first | (with_reducible first | exact HB.out | apply below_alloc | apply pw_below_drewN | apply below_drew1) | exact HB.out)) hb); have n1_ := Aside0.mk (hbox); have n2_ := Aside0.mk ((by rw [hg]; exact (below_size (by repeat (first | (with_reducible first | exact HB.out | apply below_alloc | apply pw_below_drewN | apply below_drew1) | exact HB.out))) : w.heap.size ≤ gb129)); have n3_ := Aside0.mk ((by rw [hg]; exact (below_size (by repeat (first | (with_reducible first | exact HB.out | apply below_alloc | apply pw_below_drewN | apply below_drew1) | exact HB.out))) : w.heap.size ≤ gb129)); clear HB; have HB := n0_; have BK129 := n1_; have GW129 := n2_; have GE129 := n3_; clear n0_ n1_ n2_ n3_; clear hb hbox hg; have hczx23c41 : wx23c41.cell? ⟨gb129, 0, none⟩ = some (.int .i64 a2_0) := (blk_cell BK129.out 0).trans rfl; have hczx23c42 : wx23c41.cell? ⟨gb129, 1, none⟩ = some (.int .i64 a2_1) := (blk_cell BK129.out 1).trans rfl; have hczx23c43 : wx23c41.cell? ⟨gb129, 2, none⟩ = some (.int .i64 a2_2) := (blk_cell BK129.out 2).trans rfl; have hczx23c44 : wx23c41.cell? ⟨gb129, 3, none⟩ = some (.int .i64 a2_3) := (blk_cell BK129.out 3).trans rfl; have hczx23c45 : wx23c41.cell? ⟨gb129, 4, none⟩ = some (.int .i64 a2_4) := (blk_cell BK129.out 4).trans rfl; have hfzx23c41 := blk_frozen BK129.out 0; have hfzx23c42 := blk_frozen BK129.out 1; have hfzx23c43 := blk_frozen BK129.out 2; have hfzx23c44 := blk_frozen BK129.out 3; have hfzx23c45 := blk_frozen BK129.out 4) | ((with_reducible refine gate_dst (N := 13) rfl ?_); refine Kd.R_lit k38 _ 38 ?hg (N := 13) ?hd (xs := ([(⟨a2_0, a2_1, (⟨a2_2, a2_3⟩ : S28), a2_4⟩ : S38)] : List (S38))) (inner := [.int .i64 a2_0, .int .i64 a2_1, .int .i64 a2_2, .int .i64 a2_3, .int .i64 a2_4]) (ok := fun _ => True) (okp := fun _ => True) ?hr ?hp (fun _ hk => hk) trivial (Below.refl _ _) (Nat.le_refl _) (by simp) ?_; (case hd => rfl); (case hg => rfl); (case hr => first | (go_simp; done) | (go_simp; rfl)); (case hp => exact (Reps.c5 (show Kd.M k38 _ _ _ (⟨a2_0, a2_1, (⟨a2_2, a2_3⟩ : S28), a2_4⟩ : S38) [.int .i64 a2_0, .int .i64 a2_1, .int .i64 a2_2, .int .i64 a2_3, .int .i64 a2_4] from (k38_mkM _ _ _ (⟨a2_0, a2_1, (⟨a2_2, a2_3⟩ : S28), a2_4⟩ : S38) )) (Reps.none _ _))); intro v131 wx127a1 hox127a1 hb hg_ hnew_; clear hg_ hnew_; (first | rw [← Ny130.out] at hox127a1 | (simp only [Int.reduceToNat] at hox127a1; rw [← Ny130.out] at hox127a1)); have n0_ := Aside0.mk (Kd.R_lower (Kd.R_newB hox127a1 (g := gb129) (o := .cells #[.int .i64 a2_0, .int .i64 a2_1, .int .i64 a2_2, .int .i64 a2_3, .int .i64 a2_4] 38 (0, 0)) (by (with_reducible repeat (first | refine blk_drewN ?_ _ | refine blk_drew ?_ | refine blk_alloc ?_ _)); exact BK129.out)) (below_size (by repeat (first | (with_reducible first | exact HB.out | apply below_alloc | apply pw_below_drewN | apply below_drew1 | refine below_set ?_ GE129.out) | exact HB.out)))); have n1_ := Aside0.mk (blk_below (g := gb129) (o := .cells #[.int .i64 a2_0, .int .i64 a2_1, .int .i64 a2_2, .int .i64 a2_3, .int .i64 a2_4] 38 (0, 0)) (by (with_reducible repeat (first | refine blk_drewN ?_ _ | refine blk_drew ?_ | refine blk_alloc ?_ _)); exact BK129.out) hb); have n2_ := Aside0.mk (below_step (by repeat (first | (with_reducible first | exact HB.out | apply below_alloc | apply pw_below_drewN | apply below_drew1 | refine below_set ?_ GE129.out) | exact HB.out)) hb); clear BK129; clear HB; have HO132 := n0_; have BK129 := n1_; have HB := n2_; clear n0_ n1_ n2_; clear hb hox127a1; obtain ⟨Aox127a1, cox127a1, eox127a1⟩ := Kd.R_slice HO132.out; subst eox127a1) | ((with_reducible refine gate_callee (f := 31) rfl ?_); refine goesL_ (some 14) rfl rfl Tryd.func31 (by kernel_rfl) rfl #[.slice Aox127a1 y130.length cox127a1] rfl (by (try simp only [List.map_toArray, List.map_cons, List.map_nil]); first | done | rfl | (simp only [List.length_drop, List.length_take]; rfl)) ?_; (with_reducible refine (wind_Check.calls k _ _ y130 t133 _ ?side1 ?side2 A4.out).mono ?_); (case side1 => repeat (first | exact (Kd.R_reads' HO132.out).2.2 | (with_reducible refine Kd.C_alloc ?_ _) | (with_reducible refine Kd.C_drewN ?_ _) | (with_reducible refine Kd.C_drew ?_))); (case side2 => exact (Kd.R_reads' HO132.out).2.1); rintro e wx010e1 ⟨rfl, hb⟩; refine ⟨_, rfl, ?_⟩; have n0_ := Aside0.mk (Kd.R_below (by (with_reducible repeat (first | apply Kd.R_alloc | apply Kd.R_drewN | apply Kd.R_drew)); exact HO132.out) hb); have n1_ := Aside0.mk (blk_below (g := gb129) (o := .cells #[.int .i64 a2_0, .int .i64 a2_1, .int .i64 a2_2, .int .i64 a2_3, .int .i64 a2_4] 38 (0, 0)) (by (with_reducible repeat (first | refine blk_drewN ?_ _ | refine blk_drew ?_ | refine blk_alloc ?_ _)); exact BK129.out) hb); have n2_ := Aside0.mk (below_step (by repeat (first | (with_reducible first | exact HB.out | apply below_alloc | apply pw_below_drewN | apply below_drew1 | refine below_set ?_ GE129.out) | exact HB.out)) hb); clear HO132; clear BK129; clear HB; have HO132 := n0_; have BK129 := n1_; have HB := n2_; clear n0_ n1_ n2_; (try clear hb); (try clear hb2); (try clear hk); (try clear hi); have hczx010e1 : wx010e1.cell? ⟨gb129, 0, none⟩ = some (.int .i64 a2_0) := (blk_cell BK129.out 0).trans rfl; have hczx010e2 : wx010e1.cell? ⟨gb129, 1, none⟩ = some (.int .i64 a2_1) := (blk_cell BK129.out 1).trans rfl; have hczx010e3 : wx010e1.cell? ⟨gb129, 2, none⟩ = some (.int .i64 a2_2) := (blk_cell BK129.out 2).trans rfl; have hczx010e4 : wx010e1.cell? ⟨gb129, 3, none⟩ = some (.int .i64 a2_3) := (blk_cell BK129.out 3).trans rfl; have hczx010e5 : wx010e1.cell? ⟨gb129, 4, none⟩ = some (.int .i64 a2_4) := (blk_cell BK129.out 4).trans rfl; have hfzx010e1 := blk_frozen BK129.out 0; have hfzx010e2 := blk_frozen BK129.out 1; have hfzx010e3 := blk_frozen BK129.out 2; have hfzx010e4 := blk_frozen BK129.out 3; have hfzx010e5 := blk_frozen BK129.out 4) | ((with_reducible refine gate_callee (f := 31) rfl ?_); refine goesL_ (some 14) rfl rfl Tryd.func31 (by kernel_rfl) rfl #[.slice Aox127a1 y130.length cox127a1] rfl (by (try simp only [List.map_toArray, List.map_cons, List.map_nil]); first | done | rfl | (simp only [List.length_drop, List.length_take]; rfl)) ?_; (with_reducible refine (wind_Check.calls k _ _ y130 t133 _ ?side1 ?side2 A4.out).mono ?_); (case side1 => repeat (first | exact (Kd.R_reads' HO132.out).2.2 | (with_reducible refine Kd.C_alloc ?_ _) | (with_reducible refine Kd.C_drewN ?_ _) | (with_reducible refine Kd.C_drew ?_))); (case side2 => exact (Kd.R_reads' HO132.out).2.1); rintro e wxf8661 ⟨rfl, hb⟩; refine ⟨_, rfl, ?_⟩; have n0_ := Aside0.mk (Kd.R_below (by (with_reducible repeat (first | apply Kd.R_alloc | apply Kd.R_drewN | apply Kd.R_drew)); exact HO132.out) hb); have n1_ := Aside0.mk (blk_below (g := gb129) (o := .cells #[.int .i64 a2_0, .int .i64 a2_1, .int .i64 a2_2, .int .i64 a2_3, .int .i64 a2_4] 38 (0, 0)) (by (with_reducible repeat (first | refine blk_drewN ?_ _ | refine blk_drew ?_ | refine blk_alloc ?_ _)); exact BK129.out) hb); have n2_ := Aside0.mk (below_step (by repeat (first | (with_reducible first | exact HB.out | apply below_alloc | apply pw_below_drewN | apply below_drew1 | refine below_set ?_ GE129.out) | exact HB.out)) hb); clear HO132; clear BK129; clear HB; have HO132 := n0_; have BK129 := n1_; have HB := n2_; clear n0_ n1_ n2_; (try clear hb); (try clear hb2); (try clear hk); (try clear hi)) | ((with_reducible refine gate_callee (f := 32) rfl ?_); refine goesL_ (some 28) rfl rfl Tryd.func32 (by kernel_rfl) rfl #[.int .i64 a0, .int .i64 a1, .agg #[.int .i64 a2_0, .int .i64 a2_1, .int .i64 a2_2, .int .i64 a2_3, .int .i64 a2_4]] rfl (by (try simp only [List.map_toArray, List.map_cons, List.map_nil]); first | done | rfl | (simp only [List.length_drop, List.length_take]; rfl)) ?_; (with_reducible refine (wind_ground.calls k a0 a1 a2_0 a2_1 a2_2 a2_3 a2_4 t134 t135 _ A20.out).mono ?_); rintro e wxc52c1 ⟨rfl, hb⟩; refine ⟨_, rfl, ?_⟩; have n0_ := Aside0.mk (Kd.R_below (by (with_reducible repeat (first | apply Kd.R_alloc | apply Kd.R_drewN | apply Kd.R_drew)); exact HO132.out) hb); have n1_ := Aside0.mk (blk_below (g := gb129) (o := .cells #[.int .i64 a2_0, .int .i64 a2_1, .int .i64 a2_2, .int .i64 a2_3, .int .i64 a2_4] 38 (0, 0)) (by (with_reducible repeat (first | refine blk_drewN ?_ _ | refine blk_drew ?_ | refine blk_alloc ?_ _)); exact BK129.out) hb); have n2_ := Aside0.mk (below_step (by repeat (first | (with_reducible first | exact HB.out | apply below_alloc | apply pw_below_drewN | apply below_drew1 | refine below_set ?_ GE129.out) | exact HB.out)) hb); clear HO132; clear BK129; clear HB; have HO132 := n0_; have BK129 := n1_; have HB := n2_; clear n0_ n1_ n2_; (try clear hb); (try clear hb2); (try clear hk); (try clear hi)))
  go_ret3
  exact ⟨by first | rfl | (simp [errW_none, errW_some] <;> rfl) | (simp [*, errW_none, errW_some] <;> rfl), by repeat (first | (with_reducible first | exact HB.out | apply below_alloc | apply pw_below_drewN | apply below_drew1 | refine below_set ?_ GE129.out) | exact HB.out)⟩

/-! ### angle_Norm: function 14 -/
def angle_Norm.f (a0 : Int) : Option (Int) := some (Go.bits .and .i64 a0 4095)
set_option maxHeartbeats 8000000 in
set_option maxRecDepth 100000 in
theorem angle_Norm.calls (a0 : Int) (r : Int) (w : World) (h : angle_Norm.f a0 = some r) :
    Calls Tryd.prog 14 #[.int .i64 a0] w fun e w' => e = .returned (.int .i64 r) ∧ Below w.heap.size w w' := by
 have HB := Aside0.mk (Below.refl w.heap.size w)
 have H : (some (Go.bits .and .i64 a0 4095)) = some r := h
 clear h
 obtain rfl := Option.some.inj H
 go_enter Tryd.func14, Tryd.ntmps14
 go_wp2
 go_ret
 exact ⟨by first | rfl | (simp [errW_none, errW_some] <;> rfl) | (simp [*, errW_none, errW_some] <;> rfl), by repeat (first | (with_reducible first | exact HB.out | apply below_alloc | apply pw_below_drewN | apply below_drew1) | exact HB.out)⟩

-- NOT PRINTED: function 41 (math_archFloor)

-- NOT PRINTED: function 48 (math_IsNaN)

-- NOT PRINTED: function 37 (math_Float64bits)

-- NOT PRINTED: function 38 (math_Float64frombits)

-- NOT PRINTED: function 57 (math_Abs)

-- NOT PRINTED: function 49 (math_IsInf)

-- NOT PRINTED: function 54 (math_Copysign)

-- NOT PRINTED: function 65 (math_archTrunc)

-- NOT PRINTED: function 66 (math_trunc)

-- NOT PRINTED: function 61 (math_Trunc)

-- NOT PRINTED: function 52 (math_Modf)

-- NOT PRINTED: function 42 (math_floor)

-- NOT PRINTED: function 25 (math_Floor)

-- NOT PRINTED: function 43 (math_archAtan2)

-- NOT PRINTED: function 50 (math_NaN)

-- NOT PRINTED: function 53 (math_Signbit)

-- NOT PRINTED: function 62 (math_archAtan)

-- NOT PRINTED: function 68 (math_xatan)

-- NOT PRINTED: function 67 (math_satan)

-- NOT PRINTED: function 63 (math_atan)

-- NOT PRINTED: function 55 (math_Atan)

-- NOT PRINTED: function 44 (math_atan2)

-- NOT PRINTED: function 26 (math_Atan2)

/-! ### angle_after: function 27 -/
def angle_after.f (a0 : Int) (a1_0 : Int) (a1_1 : Int) : Option (Int) := (angle_Cos.f a0).bind fun t137 => ((angle_Sin.f a0).bind fun t138 => (some (wrap64 ((wrap64 (t137 * a1_0)) - (wrap64 (t138 * a1_1))))))
def angle_after.T1 : Bool × List (List Nat × List Nat) := (true, [([], []), ([0], [0]), ([], []), ([2], [2]), ([1, 3], [1, 3]), ([], []), ([5, 1], [5]), ([], []), ([7], [7]), ([6, 8], [6, 8]), ([4, 9], [4, 9]), ([10, 6, 0, 1, 2, 3, 4, 5, 6, 7, 8, 9, 10], [10])])
def angle_after.B1 : List Nat := [0, 1, 0, 4, 15, 0, 35, 0, 128, 483, 1023, 2047]
theorem angle_after.tab1 : rtab .any (opsOf Tryd.f27 1) = angle_after.T1 := by kernel_rfl
theorem angle_after.bits1 : waitsOk angle_after.T1.2 angle_after.B1 = true := by kernel_rfl
set_option maxHeartbeats 8000000 in
set_option maxRecDepth 100000 in
theorem angle_after.calls (a0 : Int) (a1_0 : Int) (a1_1 : Int) (r : Int) (w : World) (h : angle_after.f a0 a1_0 a1_1 = some r) (hT0 : Ang.Tab w := by exact Ang.Tab.below hT0 (by repeat (first | (with_reducible first | exact HB.out | apply below_alloc | apply pw_below_drewN | apply below_drew1) | exact HB.out | (refine Below.setCell ?_ (by dsimp only; exact Aside0.out (by assumption)) _)))) :
    Calls Tryd.prog 27 #[.int .i64 a0, .agg #[.int .i64 a1_0, .int .i64 a1_1]] w fun e w' => e = .returned (.int .i64 r) ∧ Below w.heap.size w w' := by
 have hu28 := Tryd.underlying28
 have HB := Aside0.mk (Below.refl w.heap.size w)
 have H : ((angle_Cos.f a0).bind fun t137 => ((angle_Sin.f a0).bind fun t138 => (some (wrap64 ((wrap64 (t137 * a1_0)) - (wrap64 (t138 * a1_1))))))) = some r := h
 clear h
 replace H := Option.bind_eq_some_iff.mp H
 obtain ⟨t137, A30, H⟩ := H
 replace H : ((angle_Sin.f a0).bind fun t138 => (some (wrap64 ((wrap64 (t137 * a1_0)) - (wrap64 (t138 * a1_1)))))) = some r := H
 have A3 := Aside0.mk A30
 clear A30
 replace H := Option.bind_eq_some_iff.mp H
 obtain ⟨t138, A40, H⟩ := H
 replace H : (some (wrap64 ((wrap64 (t137 * a1_0)) - (wrap64 (t138 * a1_1))))) = some r := H
 have A4 := Aside0.mk A40
 clear A40
 obtain rfl := Option.some.inj H
 go_enter Tryd.func27, Tryd.ntmps27
 try go_wp2_with (first | ((with_reducible refine gate_dst (N := 3) rfl ?_); refine box_event ?hg (N := 3) ?hd (cs := #[.int .i64 a1_0, .int .i64 a1_1]) (t := 28) ?hr ?_; (case hd => rfl); (case hg => rfl); (case hr => first | (go_simp; done) | (go_simp; rfl)); intro gb136 hg w5 hbox hb; have n0_ := Aside0.mk (below_step (by repeat (first | (with_reducible first | exact HB.out | apply below_alloc | apply pw_below_drewN | apply below_drew1) | exact HB.out)) hb); have n1_ := Aside0.mk (hbox); have n2_ := Aside0.mk ((by rw [hg]; exact (below_size (by repeat (first | (with_reducible first | exact HB.out | apply below_alloc | apply pw_below_drewN | apply below_drew1) | exact HB.out))) : w.heap.size ≤ gb136)); have n3_ := Aside0.mk ((by rw [hg]; exact (below_size (by repeat (first | (with_reducible first | exact HB.out | apply below_alloc | apply pw_below_drewN | apply below_drew1) | exact HB.out))) : w.heap.size ≤ gb136)); clear HB; have HB := n0_; have BK136 := n1_; have GW136 := n2_; have GE136 := n3_; clear n0_ n1_ n2_ n3_; clear hb hbox hg))
 have n0_ := Aside0.mk (blk_drew BK136.out)
 have n1_ := Aside0.mk (below_drew1 HB.out)
 clear BK136
 clear HB
 have BK136 := n0_
 have HB := n1_
 clear n0_ n1_
 refine start_ (n := 12) (S := fun w' => w'.cell? ⟨gb136, 0, none⟩ = some (.int .i64 a1_0) ∧ w'.cell? ⟨gb136, 1, none⟩ = some (.int .i64 a1_1)) (ds := []) #[false, false, false, false, false, false, false, false, false, false, false, false] (by kernel_rfl) rfl rfl ⟨(blk_cell BK136.out 0).trans rfl, (blk_cell BK136.out 1).trans rfl⟩ (fun hHeld => ?_); refine with_tabW angle_after.tab1 angle_after.bits1 (fun HT_ HW_ => ?_)
 generalize w5.drew = w6 at BK136 HB hHeld ⊢
 refine pure_ (i := 0) (N := some 5) (v := ?_) (a' := ?_) #[true, false, false, false, false, false, false, false, false, false, false, false] rfl rfl (any_of HT_.out (by kernel_rfl)) (fun _ _ _ h => h) (Or.inl ⟨by rfl, ?_⟩) ?_ ?_
 rotate_left
 · intro w'
   go_simp
   with_reducible rfl
 rotate_left
 · simp only [Act.put, List.setIfInBounds_toArray, List.set_cons_zero, List.set_cons_succ, i64_w, i32_w]
   rfl
 refine pure_ (i := 2) (N := some 7) (v := ?_) (a' := ?_) #[true, false, true, false, false, false, false, false, false, false, false, false] rfl rfl (any_of HT_.out (by kernel_rfl)) (fun _ _ _ h => h) (Or.inl ⟨by rfl, ?_⟩) ?_ ?_
 rotate_left
 · intro w'
   go_simp
   with_reducible rfl
 rotate_left
 · simp only [Act.put, List.setIfInBounds_toArray, List.set_cons_zero, List.set_cons_succ, i64_w, i32_w]
   rfl
 refine pure_ (i := 5) (N := some 10) (v := ?_) (a' := ?_) #[true, false, true, false, false, true, false, false, false, false, false, false] rfl rfl (any_of HT_.out (by kernel_rfl)) (fun _ _ _ h => h) (Or.inl ⟨by rfl, ?_⟩) ?_ ?_
 rotate_left
 · intro w'
   go_simp
   with_reducible rfl
 rotate_left
 · simp only [Act.put, List.setIfInBounds_toArray, List.set_cons_zero, List.set_cons_succ, i64_w, i32_w]
   rfl
 refine pure_ (i := 7) (N := some 12) (v := ?_) (a' := ?_) #[true, false, true, false, false, true, false, true, false, false, false, false] rfl rfl (any_of HT_.out (by kernel_rfl)) (fun _ _ _ h => h) (Or.inl ⟨by rfl, ?_⟩) ?_ ?_
 rotate_left
 · intro w'
   go_simp
   with_reducible rfl
 rotate_left
 · simp only [Act.put, List.setIfInBounds_toArray, List.set_cons_zero, List.set_cons_succ, i64_w, i32_w]
   rfl
 refine take_ (i := 3) (N := some 8) (v := ?_) (a' := ?_) #[true, false, true, true, false, true, false, true, false, false, false, false] rfl rfl (take_ofW HT_.out HW_.out (by kernel_rfl)) (fun _ _ _ h => h) (Or.inl ⟨by rfl, ?_⟩) hHeld ?_ ?_
 rotate_left
 · rintro w' ⟨s0, s1⟩
   go_simp
   with_reducible rfl
 rotate_left
 · simp only [Act.put, List.setIfInBounds_toArray, List.set_cons_zero, List.set_cons_succ, i64_w, i32_w]
   rfl
 refine take_ (i := 8) (N := some 13) (v := ?_) (a' := ?_) #[true, false, true, true, false, true, false, true, true, false, false, false] rfl rfl (take_ofW HT_.out HW_.out (by kernel_rfl)) (fun _ _ _ h => h) (Or.inl ⟨by rfl, ?_⟩) hHeld ?_ ?_
 rotate_left
 · rintro w' ⟨s0, s1⟩
   go_simp
   with_reducible rfl
 rotate_left
 · simp only [Act.put, List.setIfInBounds_toArray, List.set_cons_zero, List.set_cons_succ, i64_w, i32_w]
   rfl
 refine one_ (i := 1) (N := some 6) #[true, true, true, true, false, true, false, true, true, false, false, false] rfl rfl (one_of HT_.out (by kernel_rfl)) (by decide) (fun K hK => ?_)
 refine goes_ Tryd.func13 (by kernel_rfl) rfl #[.int .i64 a0] (by rfl) rfl rfl (by (try simp only [List.map_toArray, List.map_cons, List.map_nil]); first | done | rfl | (simp only [List.length_drop, List.length_take]; rfl)) ?_
 with_reducible refine (angle_Cos.calls a0 t137 _ A3.out).mono ?_
 rintro e w7 ⟨rfl, hb⟩
 refine ⟨_, rfl, ?_⟩
 have n0_ := Aside0.mk (blk_below (g := gb136) (o := .cells #[.int .i64 a1_0, .int .i64 a1_1] 28 (0, 0)) (by (with_reducible repeat (first | refine blk_drewN ?_ _ | refine blk_drew ?_ | refine blk_alloc ?_ _)); exact BK136.out) hb)
 have n1_ := Aside0.mk (below_step (by repeat (first | (with_reducible first | exact HB.out | apply below_alloc | apply pw_below_drewN | apply below_drew1 | refine below_set ?_ GE136.out) | exact HB.out)) hb)
 clear BK136
 clear HB
 have BK136 := n0_
 have HB := n1_
 clear n0_ n1_
 (try clear hb)
 (try clear hb2)
 (try clear hk)
 (try clear hi)
 refine hK.out _ _ ⟨(blk_cell BK136.out 0).trans rfl, (blk_cell BK136.out 1).trans rfl⟩ (fun hHeld => ?_)
 clear hK K
 refine norm_ (a' := ?_) ?_ ?_
 rotate_left
 · show Act.put _ (some 6) _ = _
   simp only [Act.put, List.setIfInBounds_toArray, List.set_cons_zero, List.set_cons_succ, i64_w, i32_w]
   rfl
 refine pure_ (i := 4) (N := some 9) (v := ?_) (a' := ?_) #[true, true, true, true, true, true, false, true, true, false, false, false] rfl rfl (any_of HT_.out (by kernel_rfl)) (fun _ _ _ h => h) (Or.inl ⟨by rfl, ?_⟩) ?_ ?_
 rotate_left
 · intro w'
   go_simp
   with_reducible rfl
 rotate_left
 · simp only [Act.put, List.setIfInBounds_toArray, List.set_cons_zero, List.set_cons_succ, i64_w, i32_w]
   rfl
 refine one_ (i := 6) (N := some 11) #[true, true, true, true, true, true, true, true, true, false, false, false] rfl rfl (one_of HT_.out (by kernel_rfl)) (by decide) (fun K hK => ?_)
 refine goes_ Tryd.func12 (by kernel_rfl) rfl #[.int .i64 a0] (by rfl) rfl rfl (by (try simp only [List.map_toArray, List.map_cons, List.map_nil]); first | done | rfl | (simp only [List.length_drop, List.length_take]; rfl)) ?_
 with_reducible refine (angle_Sin.calls a0 t138 _ A4.out).mono ?_
 rintro e w8 ⟨rfl, hb⟩
 refine ⟨_, rfl, ?_⟩
 have n0_ := Aside0.mk (blk_below (g := gb136) (o := .cells #[.int .i64 a1_0, .int .i64 a1_1] 28 (0, 0)) (by (with_reducible repeat (first | refine blk_drewN ?_ _ | refine blk_drew ?_ | refine blk_alloc ?_ _)); exact BK136.out) hb)
 have n1_ := Aside0.mk (below_step (by repeat (first | (with_reducible first | exact HB.out | apply below_alloc | apply pw_below_drewN | apply below_drew1 | refine below_set ?_ GE136.out) | exact HB.out)) hb)
 clear BK136
 clear HB
 have BK136 := n0_
 have HB := n1_
 clear n0_ n1_
 (try clear hb)
 (try clear hb2)
 (try clear hk)
 (try clear hi)
 refine hK.out _ _ ⟨(blk_cell BK136.out 0).trans rfl, (blk_cell BK136.out 1).trans rfl⟩ (fun hHeld => ?_)
 clear hK K
 refine norm_ (a' := ?_) ?_ ?_
 rotate_left
 · show Act.put _ (some 11) _ = _
   simp only [Act.put, List.setIfInBounds_toArray, List.set_cons_zero, List.set_cons_succ, i64_w, i32_w]
   rfl
 refine pure_ (i := 9) (N := some 14) (v := ?_) (a' := ?_) #[true, true, true, true, true, true, true, true, true, true, false, false] rfl rfl (any_of HT_.out (by kernel_rfl)) (fun _ _ _ h => h) (Or.inl ⟨by rfl, ?_⟩) ?_ ?_
 rotate_left
 · intro w'
   go_simp
   with_reducible rfl
 rotate_left
 · simp only [Act.put, List.setIfInBounds_toArray, List.set_cons_zero, List.set_cons_succ, i64_w, i32_w]
   rfl
 refine pure_ (i := 10) (N := some 15) (v := ?_) (a' := ?_) #[true, true, true, true, true, true, true, true, true, true, true, false] rfl rfl (any_of HT_.out (by kernel_rfl)) (fun _ _ _ h => h) (Or.inl ⟨by rfl, ?_⟩) ?_ ?_
 rotate_left
 · intro w'
   go_simp
   with_reducible rfl
 rotate_left
 · simp only [Act.put, List.setIfInBounds_toArray, List.set_cons_zero, List.set_cons_succ, i64_w, i32_w]
   rfl
 refine pure_ (i := 11) (N := some 4) (v := ?_) (a' := ?_) #[true, true, true, true, true, true, true, true, true, true, true, true] rfl rfl (any_of HT_.out (by kernel_rfl)) (fun _ _ _ h => h) (Or.inl ⟨by rfl, ?_⟩) ?_ ?_
 rotate_left
 · intro w'
   go_simp
   with_reducible rfl
 rotate_left
 · simp only [Act.put, List.setIfInBounds_toArray, List.set_cons_zero, List.set_cons_succ, i64_w, i32_w]
   rfl
 refine done_ (done_of HT_.out (by kernel_rfl)) ?_
 try go_wp2
 go_ret
 exact ⟨by first | rfl | (simp [errW_none, errW_some] <;> rfl) | (simp [*, errW_none, errW_some] <;> rfl), by repeat (first | (with_reducible first | exact HB.out | apply below_alloc | apply pw_below_drewN | apply below_drew1 | refine below_set ?_ GE136.out) | exact HB.out)⟩

end Go.Proofs.YthpbpdobghceeaaDoor.PWindLegs
