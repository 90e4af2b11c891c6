/- Made by a program of this session (wip/tools/myprint.py, over the kit's printer): that the Go functions answer as the Lean functions printed beside them. -/
import Derived.Test.YtaahnfajcbkknaaPNumRoundsx0
namespace Go.Proofs.Ytaahnfajcbkknaa.PNumRounds
open Go.RowKit Go.Proofs.YtaahnfajcbkknaaW.PrintWords Go.Proofs.YtaahnfajcbkknaaW.PrintLast Go.Proofs.YtaahnfajcbkknaaW.PrintMore
attribute [local go_sem] max2_int min2_int max_two min_two max_three min_three max_four min_four   -- for this text's walks alone
set_option linter.unusedVariables false
set_option linter.unusedSimpArgs false

/-! ### num_DivDown: function 16 -/
def num_DivDown.j0 : Nat → Int → Int → Bool → Option (Int × Int)
  | 0, _, _, _ => none
  | k + 1, x0, x1, x10 => if x10 = true then (some (0, 2)) else (if x1 = 0 then (none) else (if (Int.tmod x0 x1) = 0 then (some (wrap64 (Int.tdiv x0 x1), 0)) else (if ((decide (x0 < 0)) != (decide (x1 < 0))) = true then (some (wrap64 ((wrap64 (Int.tdiv x0 x1)) - 1), 0)) else (some (wrap64 (Int.tdiv x0 x1), 0)))))
def num_DivDown.f (k : Nat) (a0 : Int) (a1 : Int) : Option (Int × Int) := if a1 = 0 then (some (0, 10)) else (if a0 = (-9223372036854775808) then (num_DivDown.j0 k a0 a1 (a1 == (-1))) else (num_DivDown.j0 k a0 a1 false))
theorem num_DivDown.mono_l : ∀ k, (∀ y0 y1 y2, LeO (num_DivDown.j0 k y0 y1 y2) (num_DivDown.j0 (k + 1) y0 y1 y2))
  | 0 => fun _ _ _ r h => by simp [num_DivDown.j0] at h
  | k + 1 => by
    have ih0 := num_DivDown.mono_l k
    · intro y0 y1 y2
      unfold num_DivDown.j0
      repeat' first
      | (with_reducible exact ih0 _ _ _)
      | (with_reducible exact LeO.refl _)
      | (with_reducible exact LeO.none _)
      | (with_reducible refine LeO.ite ?_ ?_)
      | (with_reducible refine LeO.bind ?_ (fun _ => ?_))
      | exact ih0 _ _ _
      | exact LeO.none _
      | refine LeO.ite ?_ ?_
      | refine LeO.bind ?_ (fun _ => ?_)
theorem num_DivDown.mono : ∀ a0 a1 k, LeO (num_DivDown.f k a0 a1) (num_DivDown.f (k + 1) a0 a1) := by
  intro a0 a1 k
  have ih0 := num_DivDown.mono_l k
  unfold num_DivDown.f
  repeat' first
      | (with_reducible exact ih0 _ _ _)
      | (with_reducible exact LeO.refl _)
      | (with_reducible exact LeO.none _)
      | (with_reducible refine LeO.ite ?_ ?_)
      | (with_reducible refine LeO.bind ?_ (fun _ => ?_))
      | exact ih0 _ _ _
      | exact LeO.none _
      | refine LeO.ite ?_ ?_
      | refine LeO.bind ?_ (fun _ => ?_)
set_option maxHeartbeats 8000000 in
set_option maxRecDepth 100000 in
theorem num_DivDown.calls (k : Nat) (a0 : Int) (a1 : Int) (r1 : Int) (r2 : Int) (w : World) (h : num_DivDown.f k a0 a1 = some (r1, r2)) :
    Calls Try.prog 16 #[.int .i64 a0, .int .i64 a1] w fun e w' => e = .returned (.tuple #[.int .i64 r1, .int .i64 r2]) ∧ Below w.heap.size w w' := by
 have HB := Aside0.mk (Below.refl w.heap.size w)
 have H : (if a1 = 0 then (some (0, 10)) else (if a0 = (-9223372036854775808) then (num_DivDown.j0 k a0 a1 (a1 == (-1))) else (num_DivDown.j0 k a0 a1 false))) = some (r1, r2) := h
 clear h
 refine Or.elim (Classical.em (a1 = 0)) (fun c3 => ?p2_) (fun c3 => ?n2_)
 case' p2_ =>
  rw [if_pos c3] at H
  have c3b0 : (a1 == 0) = true := beq_iff_eq.mpr c3
  have c3b1 : (a1 != 0) = false := bne_eq_false_iff_eq.mpr c3
  clear c3
  simp only [Option.some.injEq, Prod.mk.injEq] at H
  obtain ⟨rfl, rfl⟩ := H
  have hm1_0 := Aside0.mk trivial
 case' n2_ =>
  rw [if_neg c3] at H
  have c3b0 : (a1 == 0) = false := beq_eq_false_iff_ne.mpr c3
  have c3b1 : (a1 != 0) = true := bne_iff_ne.mpr c3
  have HC4 := Aside0.mk H
  clear H
  have hm1_1 := Aside0.mk trivial
 all_goals
  go_enter Try.func16, Try.ntmps16
  first
   | clear hm1_0
     go_wp2
     go_ret2
     exact ⟨by first | rfl | (simp [errW_none, errW_some] <;> rfl) | (simp [*, errW_none, errW_some] <;> rfl), by repeat (first | (with_reducible first | exact HB.out | apply below_alloc | apply pw_below_drewN | apply below_drew1) | exact HB.out)⟩
   | clear hm1_1
     go_upto_region 3 with (fail)
     go_cut [10] (fun v10 wc => ∃ (kq : Nat) (x10_3 : Bool), v10 = .bool x10_3 ∧ Aside0 (num_DivDown.j0 kq a0 a1 x10_3 = some (r1, r2)) ∧ Aside0 (kq ≤ k) ∧ Aside0 (Below w.heap.size w wc))
     case first =>
      have H := HC4.out
      clear HC4
      refine Or.elim (Classical.em (a0 = (-9223372036854775808))) (fun c5 => ?p4_) (fun c5 => ?n4_)
      case' p4_ =>
       rw [if_pos c5] at H
       have c5b0 : (a0 == (-9223372036854775808)) = true := beq_iff_eq.mpr c5
       have c5b1 : (a0 != (-9223372036854775808)) = false := bne_eq_false_iff_eq.mpr c5
       clear c5
       (first | rw [c5b0] | (simp only [i64_w, i32_w]; rw [c5b0]) | skip)
      case' n4_ =>
       rw [if_neg c5] at H
       have c5b0 : (a0 == (-9223372036854775808)) = false := beq_eq_false_iff_ne.mpr c5
       have c5b1 : (a0 != (-9223372036854775808)) = true := bne_iff_ne.mpr c5
       (first | rw [c5b0] | (simp only [i64_w, i32_w]; rw [c5b0]) | skip)
      all_goals
       have H' := Aside0.mk H
       clear H
       go_wp2
       go_meet
       case rel => first | (exact ⟨_, ((a1 == (-1))), (by first | rfl | (simp; done) | (simp [*]; done)), H', ⟨by first | omega | exact Nat.le_refl _⟩, ⟨by repeat (first | (with_reducible first | exact HB.out | apply below_alloc | apply pw_below_drewN | apply below_drew1) | exact HB.out)⟩⟩) | (exact ⟨_, (false), (by first | rfl | (simp; done) | (simp [*]; done)), H', ⟨by first | omega | exact Nat.le_refl _⟩, ⟨by repeat (first | (with_reducible first | exact HB.out | apply below_alloc | apply pw_below_drewN | apply below_drew1) | exact HB.out)⟩⟩)
     case rest =>
      clear HC4
      (try clear c1); (try clear p2); (try clear c3); (try clear c3b0); (try clear c3b1); (try clear c5); (try clear c5b0); (try clear c5b1)
      obtain ⟨kq, x10_3, rfl, HA, HJ3, HB⟩ := hcut
      cases kq with
      | zero => exact absurd HA.out (by simp [num_DivDown.j0])
      | succ kj3 =>
       have H := HA.out
       clear HA
       simp only [num_DivDown.j0] at H
       refine Or.elim (Classical.em (x10_3 = true)) (fun c6 => ?p6_) (fun c6 => ?n6_)
       case' p6_ =>
        subst c6
        have H1 : (some (0, 2)) = some (r1, r2) := by rw [if_pos rfl] at H; exact H
        clear H
        have H := H1
        clear H1
        simp only [Option.some.injEq, Prod.mk.injEq] at H
        obtain ⟨rfl, rfl⟩ := H
       case' n6_ =>
        replace c6 := Bool.eq_false_iff.mpr c6
        subst c6
        have H1 : (if a1 = 0 then (none) else (if (Int.tmod a0 a1) = 0 then (some (wrap64 (Int.tdiv a0 a1), 0)) else (if ((decide (a0 < 0)) != (decide (a1 < 0))) = true then (some (wrap64 ((wrap64 (Int.tdiv a0 a1)) - 1), 0)) else (some (wrap64 (Int.tdiv a0 a1), 0))))) = some (r1, r2) := by rw [if_neg (show ¬ (false = true) by decide)] at H; exact H
        clear H
        have H := H1
        clear H1
        refine Or.elim (Classical.em (a1 = 0)) (fun c7 => ?p7_) (fun c7 => ?n7_)
        case' p7_ =>
         rw [if_pos c7] at H
         exact absurd H (by simp)
        case' n7_ =>
         rw [if_neg c7] at H
         have c7b0 : (a1 == 0) = false := beq_eq_false_iff_ne.mpr c7
         have c7b1 : (a1 != 0) = true := bne_iff_ne.mpr c7
         refine Or.elim (Classical.em ((Int.tmod a0 a1) = 0)) (fun c8 => ?p8_) (fun c8 => ?n8_)
         case' p8_ =>
          rw [if_pos c8] at H
          have c8b0 : ((Int.tmod a0 a1) == 0) = true := beq_iff_eq.mpr c8
          have c8b1 : ((Int.tmod a0 a1) != 0) = false := bne_eq_false_iff_eq.mpr c8
          clear c8
          simp only [Option.some.injEq, Prod.mk.injEq] at H
          obtain ⟨rfl, rfl⟩ := H
         case' n8_ =>
          rw [if_neg c8] at H
          have c8b0 : ((Int.tmod a0 a1) == 0) = false := beq_eq_false_iff_ne.mpr c8
          have c8b1 : ((Int.tmod a0 a1) != 0) = true := bne_iff_ne.mpr c8
          refine Or.elim (Classical.em (((decide (a0 < 0)) != (decide (a1 < 0))) = true)) (fun c9 => ?p9_) (fun c9 => ?n9_)
          case' p9_ =>
           rw [if_pos c9] at H
           have c9b0 : ((decide (a0 < 0)) != (decide (a1 < 0))) = true := c9
           (try (have c9b1 : decide ((decide (a0 < 0)) = (decide (a1 < 0))) = false := by simpa using c9))
           (try (have c9b2 : ((decide (a0 < 0)) == (decide (a1 < 0))) = false := by simpa using c9))
           (try (have c9b3 : ¬ ((decide (a0 < 0)) = (decide (a1 < 0))) := by simpa using c9))
           clear c9
           simp only [Option.some.injEq, Prod.mk.injEq] at H
           obtain ⟨rfl, rfl⟩ := H
          case' n9_ =>
           rw [if_neg c9] at H
           have c9b0 : ((decide (a0 < 0)) != (decide (a1 < 0))) = false := by simpa using c9
           (try (have c9b1 : decide ((decide (a0 < 0)) = (decide (a1 < 0))) = true := by simpa using c9))
           (try (have c9b2 : ((decide (a0 < 0)) == (decide (a1 < 0))) = true := by simpa using c9))
           clear c9
           simp only [Option.some.injEq, Prod.mk.injEq] at H
           obtain ⟨rfl, rfl⟩ := H
       all_goals
        go_wp2
        go_ret2
        exact ⟨by first | rfl | (simp [errW_none, errW_some] <;> rfl) | (simp [*, errW_none, errW_some] <;> rfl), by repeat (first | (with_reducible first | exact HB.out | apply below_alloc | apply pw_below_drewN | apply below_drew1) | exact HB.out)⟩

/-! ### num_DivUp: function 17 -/
def num_DivUp.f (k : Nat) (a0 : Int) (a1 : Int) : Option (Int × Int) := (num_DivDown.f k a0 a1).bind fun bt101 => (if bt101.2 = 0 then (if a1 = 0 then (none) else (if (Int.tmod a0 a1) = 0 then (some (bt101.1, bt101.2)) else (some (wrap64 (bt101.1 + 1), bt101.2)))) else (some (bt101.1, bt101.2)))
theorem num_DivUp.mono : ∀ a0 a1 k, LeO (num_DivUp.f k a0 a1) (num_DivUp.f (k + 1) a0 a1) := by
  intro a0 a1 k
  unfold num_DivUp.f
  repeat' first
      | (with_reducible exact num_DivDown.mono _ _ _)
      | (with_reducible exact LeO.refl _)
      | (with_reducible exact LeO.none _)
      | (with_reducible refine LeO.ite ?_ ?_)
      | (with_reducible refine LeO.bind ?_ (fun _ => ?_))
      | exact num_DivDown.mono _ _ _
      | exact LeO.none _
      | refine LeO.ite ?_ ?_
      | refine LeO.bind ?_ (fun _ => ?_)
set_option maxHeartbeats 8000000 in
set_option maxRecDepth 100000 in
theorem num_DivUp.calls (k : Nat) (a0 : Int) (a1 : Int) (r1 : Int) (r2 : Int) (w : World) (h : num_DivUp.f k a0 a1 = some (r1, r2)) :
    Calls Try.prog 17 #[.int .i64 a0, .int .i64 a1] w fun e w' => e = .returned (.tuple #[.int .i64 r1, .int .i64 r2]) ∧ Below w.heap.size w w' := by
 have HB := Aside0.mk (Below.refl w.heap.size w)
 have H : ((num_DivDown.f k a0 a1).bind fun bt101 => (if bt101.2 = 0 then (if a1 = 0 then (none) else (if (Int.tmod a0 a1) = 0 then (some (bt101.1, bt101.2)) else (some (wrap64 (bt101.1 + 1), bt101.2)))) else (some (bt101.1, bt101.2)))) = some (r1, r2) := h
 clear h
 replace H := Option.bind_eq_some_iff.mp H
 obtain ⟨⟨t101, t102⟩, A30, H⟩ := H
 replace H : (if t102 = 0 then (if a1 = 0 then (none) else (if (Int.tmod a0 a1) = 0 then (some (t101, t102)) else (some (wrap64 (t101 + 1), t102)))) else (some (t101, t102))) = some (r1, r2) := H
 have A3 := Aside0.mk A30
 clear A30
 refine Or.elim (Classical.em (t102 = 0)) (fun c4 => ?p2_) (fun c4 => ?n2_)
 case' p2_ =>
  rw [if_pos c4] at H
  have c4b0 : (t102 == 0) = true := beq_iff_eq.mpr c4
  have c4b1 : (t102 != 0) = false := bne_eq_false_iff_eq.mpr c4
  clear c4
  refine Or.elim (Classical.em (a1 = 0)) (fun c5 => ?p3_) (fun c5 => ?n3_)
  case' p3_ =>
   rw [if_pos c5] at H
   exact absurd H (by simp)
  case' n3_ =>
   rw [if_neg c5] at H
   have c5b0 : (a1 == 0) = false := beq_eq_false_iff_ne.mpr c5
   have c5b1 : (a1 != 0) = true := bne_iff_ne.mpr c5
   refine Or.elim (Classical.em ((Int.tmod a0 a1) = 0)) (fun c6 => ?p4_) (fun c6 => ?n4_)
   case' p4_ =>
    rw [if_pos c6] at H
    have c6b0 : ((Int.tmod a0 a1) == 0) = true := beq_iff_eq.mpr c6
    have c6b1 : ((Int.tmod a0 a1) != 0) = false := bne_eq_false_iff_eq.mpr c6
    clear c6
    simp only [Option.some.injEq, Prod.mk.injEq] at H
    obtain ⟨rfl, rfl⟩ := H
   case' n4_ =>
    rw [if_neg c6] at H
    have c6b0 : ((Int.tmod a0 a1) == 0) = false := beq_eq_false_iff_ne.mpr c6
    have c6b1 : ((Int.tmod a0 a1) != 0) = true := bne_iff_ne.mpr c6
    simp only [Option.some.injEq, Prod.mk.injEq] at H
    obtain ⟨rfl, rfl⟩ := H
 case' n2_ =>
  rw [if_neg c4] at H
  have c4b0 : (t102 == 0) = false := beq_eq_false_iff_ne.mpr c4
  have c4b1 : (t102 != 0) = true := bne_iff_ne.mpr c4
  simp only [Option.some.injEq, Prod.mk.injEq] at H
  obtain ⟨rfl, rfl⟩ := H
 all_goals
  go_enter Try.func17, Try.ntmps17
  go_wp2_with (first | ((with_reducible refine gate_callee (f := 16) rfl ?_); refine goesL_ (some 11) rfl rfl Try.func16 (by kernel_rfl) rfl #[.int .i64 a0, .int .i64 a1] rfl (by (try simp only [List.map_toArray, List.map_cons, List.map_nil]); first | done | rfl | (simp only [List.length_drop, List.length_take]; rfl)) ?_; (with_reducible refine (num_DivDown.calls k a0 a1 t101 t102 _ A3.out).mono ?_); rintro e wx9ae71 ⟨rfl, hb⟩; refine ⟨_, rfl, ?_⟩; have n0_ := Aside0.mk (below_step (by repeat (first | (with_reducible first | exact HB.out | apply below_alloc | apply pw_below_drewN | apply below_drew1) | exact HB.out)) hb); clear HB; have HB := n0_; clear n0_; (try clear hb); (try clear hb2); (try clear hk); (try clear hi)))
  go_ret2
  exact ⟨by first | rfl | (simp [errW_none, errW_some] <;> rfl) | (simp [*, errW_none, errW_some] <;> rfl), by repeat (first | (with_reducible first | exact HB.out | apply below_alloc | apply pw_below_drewN | apply below_drew1) | exact HB.out)⟩

/-! ### num_magnitude: function 44 -/
def num_magnitude.f (a0 : Int) : Option (Int) := if a0 < 0 then (some (IntKind.u64.wrap (-(IntKind.u64.wrap (a0))))) else (some (IntKind.u64.wrap (a0)))
set_option maxHeartbeats 8000000 in
set_option maxRecDepth 100000 in
theorem num_magnitude.calls (a0 : Int) (r : Int) (w : World) (h : num_magnitude.f a0 = some r) :
    Calls Try.prog 44 #[.int .i64 a0] w fun e w' => e = .returned (.int .u64 r) ∧ Below w.heap.size w w' := by
 have HB := Aside0.mk (Below.refl w.heap.size w)
 have H : (if a0 < 0 then (some (IntKind.u64.wrap (-(IntKind.u64.wrap (a0))))) else (some (IntKind.u64.wrap (a0)))) = some r := h
 clear h
 refine Or.elim (Classical.em (a0 < 0)) (fun c2 => ?p2_) (fun c2 => ?n2_)
 case' p2_ =>
  rw [if_pos c2] at H
  have c2b0 : decide (a0 < 0) = true := decide_eq_true c2
  clear c2
 case' n2_ =>
  rw [if_neg c2] at H
  have c2b0 : decide (a0 < 0) = false := decide_eq_false c2
  clear c2
 all_goals
  obtain rfl := Option.some.inj H
  go_enter Try.func44, Try.ntmps44
  go_wp2
  go_ret
  exact ⟨by first | rfl | (simp [errW_none, errW_some] <;> rfl) | (simp [*, errW_none, errW_some] <;> rfl), by repeat (first | (with_reducible first | exact HB.out | apply below_alloc | apply pw_below_drewN | apply below_drew1) | exact HB.out)⟩

/-! ### num_Gcd: function 18 -/
def num_Gcd.l0 : Nat → Int → Int → Option (Int)
  | 0, _, _ => none
  | k + 1, x5, x6 => if x6 > 0 then (if x6 = 0 then (none) else (num_Gcd.l0 k x6 (Int.tmod x5 x6))) else (some (wrap64 (x5)))
def num_Gcd.f (k : Nat) (a0 : Int) (a1 : Int) : Option (Int) := (num_magnitude.f a0).bind fun t103 => ((num_magnitude.f a1).bind fun t104 => (num_Gcd.l0 k t103 t104))
theorem num_Gcd.mono_l : ∀ k, (∀ y0 y1, LeO (num_Gcd.l0 k y0 y1) (num_Gcd.l0 (k + 1) y0 y1))
  | 0 => fun _ _ r h => by simp [num_Gcd.l0] at h
  | k + 1 => by
    have ih0 := num_Gcd.mono_l k
    · intro y0 y1
      unfold num_Gcd.l0
      repeat' first
      | (with_reducible exact ih0 _ _)
      | (with_reducible exact LeO.refl _)
      | (with_reducible exact LeO.none _)
      | (with_reducible refine LeO.ite ?_ ?_)
      | (with_reducible refine LeO.bind ?_ (fun _ => ?_))
      | exact ih0 _ _
      | exact LeO.none _
      | refine LeO.ite ?_ ?_
      | refine LeO.bind ?_ (fun _ => ?_)
theorem num_Gcd.mono : ∀ a0 a1 k, LeO (num_Gcd.f k a0 a1) (num_Gcd.f (k + 1) a0 a1) := by
  intro a0 a1 k
  have ih0 := num_Gcd.mono_l k
  unfold num_Gcd.f
  repeat' first
      | (with_reducible exact ih0 _ _)
      | (with_reducible exact LeO.refl _)
      | (with_reducible exact LeO.none _)
      | (with_reducible refine LeO.ite ?_ ?_)
      | (with_reducible refine LeO.bind ?_ (fun _ => ?_))
      | exact ih0 _ _
      | exact LeO.none _
      | refine LeO.ite ?_ ?_
      | refine LeO.bind ?_ (fun _ => ?_)
set_option maxHeartbeats 8000000 in
set_option maxRecDepth 100000 in
theorem num_Gcd.calls (k : Nat) (a0 : Int) (a1 : Int) (r : Int) (w : World) (h : num_Gcd.f k a0 a1 = some r) :
    Calls Try.prog 18 #[.int .i64 a0, .int .i64 a1] w fun e w' => e = .returned (.int .i64 r) ∧ Below w.heap.size w w' := by
 have HB := Aside0.mk (Below.refl w.heap.size w)
 have H : ((num_magnitude.f a0).bind fun t103 => ((num_magnitude.f a1).bind fun t104 => (num_Gcd.l0 k t103 t104))) = some r := h
 clear h
 replace H := Option.bind_eq_some_iff.mp H
 obtain ⟨t103, A30, H⟩ := H
 replace H : ((num_magnitude.f a1).bind fun t104 => (num_Gcd.l0 k t103 t104)) = some r := H
 have A3 := Aside0.mk A30
 clear A30
 replace H := Option.bind_eq_some_iff.mp H
 obtain ⟨t104, A40, H⟩ := H
 replace H : (num_Gcd.l0 k t103 t104) = some r := H
 have A4 := Aside0.mk A40
 clear A40
 have H' := Aside0.mk H
 clear H
 go_enter Try.func18, Try.ntmps18
 go_wp2_with (first | (go_at_call 44; (with_reducible refine (num_magnitude.calls a0 t103 _ A3.out).mono ?_); rintro e w5 ⟨rfl, hb⟩; have n0_ := Aside0.mk (below_step (by repeat (first | (with_reducible first | exact HB.out | apply below_alloc | apply pw_below_drewN | apply below_drew1) | exact HB.out)) hb); clear HB; have HB := n0_; clear n0_; (try clear hb); (try clear hb2); (try clear hk); (try clear hi)) | (go_at_call 44; (with_reducible refine (num_magnitude.calls a1 t104 _ A4.out).mono ?_); rintro e w6 ⟨rfl, hb⟩; have n0_ := Aside0.mk (below_step (by repeat (first | (with_reducible first | exact HB.out | apply below_alloc | apply pw_below_drewN | apply below_drew1) | exact HB.out)) hb); clear HB; have HB := n0_; clear n0_; (try clear hb); (try clear hb2); (try clear hk); (try clear hi)))
 repeat (go_quiet (first | (go_at_call 44; (with_reducible refine (num_magnitude.calls a0 t103 _ A3.out).mono ?_); rintro e w5 ⟨rfl, hb⟩; have n0_ := Aside0.mk (below_step (by repeat (first | (with_reducible first | exact HB.out | apply below_alloc | apply pw_below_drewN | apply below_drew1) | exact HB.out)) hb); clear HB; have HB := n0_; clear n0_; (try clear hb); (try clear hb2); (try clear hk); (try clear hi)) | (go_at_call 44; (with_reducible refine (num_magnitude.calls a1 t104 _ A4.out).mono ?_); rintro e w6 ⟨rfl, hb⟩; have n0_ := Aside0.mk (below_step (by repeat (first | (with_reducible first | exact HB.out | apply below_alloc | apply pw_below_drewN | apply below_drew1) | exact HB.out)) hb); clear HB; have HB := n0_; clear n0_; (try clear hb); (try clear hb2); (try clear hk); (try clear hi))); try go_wp2_with (first | (go_at_call 44; (with_reducible refine (num_magnitude.calls a0 t103 _ A3.out).mono ?_); rintro e w5 ⟨rfl, hb⟩; have n0_ := Aside0.mk (below_step (by repeat (first | (with_reducible first | exact HB.out | apply below_alloc | apply pw_below_drewN | apply below_drew1) | exact HB.out)) hb); clear HB; have HB := n0_; clear n0_; (try clear hb); (try clear hb2); (try clear hk); (try clear hi)) | (go_at_call 44; (with_reducible refine (num_magnitude.calls a1 t104 _ A4.out).mono ?_); rintro e w6 ⟨rfl, hb⟩; have n0_ := Aside0.mk (below_step (by repeat (first | (with_reducible first | exact HB.out | apply below_alloc | apply pw_below_drewN | apply below_drew1) | exact HB.out)) hb); clear HB; have HB := n0_; clear n0_; (try clear hb); (try clear hb2); (try clear hk); (try clear hi))))
 go_loopg [5, 6] k (fun kq v5 v6 w' => ∃ (x5_1 : Int) (x6_1 : Int), v5 = .int .u64 x5_1 ∧ v6 = .int .u64 x6_1 ∧ Aside0 (num_Gcd.l0 kq x5_1 x6_1 = some r) ∧ Aside0 (kq ≤ k) ∧ Aside0 (Below w.heap.size w w'))
 case atStart => exact ⟨(t103), (t104), (by first | rfl | (simp; done) | (simp [*]; done)), (by first | rfl | (simp; done) | (simp [*]; done)), H', ⟨Nat.le_refl _⟩, ⟨by repeat (first | (with_reducible first | exact HB.out | apply below_alloc | apply pw_below_drewN | apply below_drew1) | exact HB.out)⟩⟩
 case round =>
  clear H'
  (try clear c1); (try clear p2)
  obtain ⟨x5_1, x6_1, rfl, rfl, HA, HK1, HB⟩ := hrel
  cases gk with
  | zero => exact absurd HA.out (by simp [num_Gcd.l0])
  | succ k1 =>
   have H := HA.out
   clear HA
   simp only [num_Gcd.l0] at H
   by_cases c7 : x6_1 > 0
   · rw [if_pos c7] at H
     have c7b0 : decide (0 < x6_1) = true := decide_eq_true c7
     clear c7
     by_cases c8 : x6_1 = 0
     · rw [if_pos c8] at H
       exact absurd H (by simp)
     · rw [if_neg c8] at H
       have c8b0 : (x6_1 == 0) = false := beq_eq_false_iff_ne.mpr c8
       have c8b1 : (x6_1 != 0) = true := bne_iff_ne.mpr c8
       have H' := Aside0.mk H
       clear H
       go_wp2
       repeat (go_quiet (fail); try go_wp2)
       go_roundg k1
       case measure => have := HK1.out; omega
       case rel => exact ⟨(x6_1), (Int.tmod x5_1 x6_1), (by first | rfl | (simp; done) | (simp [*]; done)), (by first | rfl | (simp; done) | (simp [*]; done)), H', ⟨by have := HK1.out; omega⟩, ⟨by repeat (first | (with_reducible first | exact HB.out | apply below_alloc | apply pw_below_drewN | apply below_drew1) | exact HB.out)⟩⟩
   · rw [if_neg c7] at H
     have c7b0 : decide (0 < x6_1) = false := decide_eq_false c7
     clear c7
     obtain rfl := Option.some.inj H
     go_wp2
     repeat (go_quiet (fail); try go_wp2)
     go_ret
     exact ⟨by first | rfl | (simp [errW_none, errW_some] <;> rfl) | (simp [*, errW_none, errW_some] <;> rfl), by repeat (first | (with_reducible first | exact HB.out | apply below_alloc | apply pw_below_drewN | apply below_drew1) | exact HB.out)⟩

/-! ### num_Between: function 43 -/
def num_Between.f (a0 : Int) (a1 : Int) (a2 : Int) : Option (Int) := some (mx a1 (mn a0 a2))
set_option maxHeartbeats 8000000 in
set_option maxRecDepth 100000 in
theorem num_Between.calls (a0 : Int) (a1 : Int) (a2 : Int) (r : Int) (w : World) (h : num_Between.f a0 a1 a2 = some r) :
    Calls Try.prog 43 #[.int .i64 a0, .int .i64 a1, .int .i64 a2] w fun e w' => e = .returned (.int .i64 r) ∧ Below w.heap.size w w' := by
 have HB := Aside0.mk (Below.refl w.heap.size w)
 have H : (some (mx a1 (mn a0 a2))) = some r := h
 clear h
 obtain ⟨ji4, hji4⟩ : ∃ j_ : Int, (mn a0 a2) = j_ := ⟨_, rfl⟩
 replace H : (some (mx a1 (ji4))) = some r := by first | (rw [hji4] at H; exact H) | (simp only [hji4] at H ⊢; exact H)
 have hji4_ : (if a2 < a0 then a2 else a0) = ji4 := hji4
 obtain ⟨ji5, hji5⟩ : ∃ j_ : Int, (mx a1 (ji4)) = j_ := ⟨_, rfl⟩
 replace H : (some ji5) = some r := by first | (rw [hji5] at H; exact H) | (simp only [hji5] at H ⊢; exact H)
 have hji5_ : (if a1 < (ji4) then (ji4) else a1) = ji5 := hji5
 obtain rfl := Option.some.inj H
 go_enter Try.func43, Try.ntmps43
 go_wp2
 go_ret
 exact ⟨by first | rfl | (simp [errW_none, errW_some] <;> rfl) | (simp only [← hji4, ← hji5]; first | rfl | (simp [errW_none, errW_some] <;> rfl)) | (simp [*, errW_none, errW_some] <;> rfl), by repeat (first | (with_reducible first | exact HB.out | apply below_alloc | apply pw_below_drewN | apply below_drew1) | exact HB.out)⟩

/-! ### skywaykeep1_numWorks: function 15 -/
def skywaykeep1_numWorks.f (k : Nat)  : Option (Bool) := (num_DivDown.f k (-7) 2).bind fun bt105 => ((num_DivUp.f k (-7) 2).bind fun bt107 => (if bt105.2 = 0 then (if bt107.2 = 0 then (if bt105.1 = (-4) then (if bt107.1 = (-3) then ((num_Gcd.f k (-12) 18).bind fun t109 => (if t109 = 6 then ((num_Between.f 9 1 5).bind fun t110 => (some (t110 == 5))) else (some false))) else (some false)) else (some false)) else (some false)) else (some false)))
theorem skywaykeep1_numWorks.mono : ∀ k, LeO (skywaykeep1_numWorks.f k ) (skywaykeep1_numWorks.f (k + 1) ) := by
  intro  k
  unfold skywaykeep1_numWorks.f
  repeat' first
      | (with_reducible exact num_DivDown.mono _ _ _)
      | (with_reducible exact num_DivUp.mono _ _ _)
      | (with_reducible exact num_Gcd.mono _ _ _)
      | (with_reducible exact LeO.refl _)
      | (with_reducible exact LeO.none _)
      | (with_reducible refine LeO.ite ?_ ?_)
      | (with_reducible refine LeO.bind ?_ (fun _ => ?_))
      | exact num_DivDown.mono _ _ _
      | exact num_DivUp.mono _ _ _
      | exact num_Gcd.mono _ _ _
      | exact LeO.none _
      | refine LeO.ite ?_ ?_
      | refine LeO.bind ?_ (fun _ => ?_)
set_option maxHeartbeats 8000000 in
set_option maxRecDepth 100000 in
theorem skywaykeep1_numWorks.calls (k : Nat)  (r : Bool) (w : World) (h : skywaykeep1_numWorks.f k  = some r) :
    Calls Try.prog 15 #[] w fun e w' => e = .returned (.bool r) ∧ Below w.heap.size w w' := by
 have HB := Aside0.mk (Below.refl w.heap.size w)
 have H : ((num_DivDown.f k (-7) 2).bind fun bt105 => ((num_DivUp.f k (-7) 2).bind fun bt107 => (if bt105.2 = 0 then (if bt107.2 = 0 then (if bt105.1 = (-4) then (if bt107.1 = (-3) then ((num_Gcd.f k (-12) 18).bind fun t109 => (if t109 = 6 then ((num_Between.f 9 1 5).bind fun t110 => (some (t110 == 5))) else (some false))) else (some false)) else (some false)) else (some false)) else (some false)))) = some r := h
 clear h
 replace H := Option.bind_eq_some_iff.mp H
 obtain ⟨⟨t105, t106⟩, A10, H⟩ := H
 replace H : ((num_DivUp.f k (-7) 2).bind fun bt107 => (if t106 = 0 then (if bt107.2 = 0 then (if t105 = (-4) then (if bt107.1 = (-3) then ((num_Gcd.f k (-12) 18).bind fun t109 => (if t109 = 6 then ((num_Between.f 9 1 5).bind fun t110 => (some (t110 == 5))) else (some false))) else (some false)) else (some false)) else (some false)) else (some false))) = some r := H
 have A1 := Aside0.mk A10
 clear A10
 replace H := Option.bind_eq_some_iff.mp H
 obtain ⟨⟨t107, t108⟩, A20, H⟩ := H
 replace H : (if t106 = 0 then (if t108 = 0 then (if t105 = (-4) then (if t107 = (-3) then ((num_Gcd.f k (-12) 18).bind fun t109 => (if t109 = 6 then ((num_Between.f 9 1 5).bind fun t110 => (some (t110 == 5))) else (some false))) else (some false)) else (some false)) else (some false)) else (some false)) = some r := H
 have A2 := Aside0.mk A20
 clear A20
 refine Or.elim (Classical.em (t106 = 0)) (fun c3 => ?p2_) (fun c3 => ?n2_)
 case' p2_ =>
  rw [if_pos c3] at H
  have c3b0 : (t106 == 0) = true := beq_iff_eq.mpr c3
  have c3b1 : (t106 != 0) = false := bne_eq_false_iff_eq.mpr c3
  clear c3
  refine Or.elim (Classical.em (t108 = 0)) (fun c4 => ?p3_) (fun c4 => ?n3_)
  case' p3_ =>
   rw [if_pos c4] at H
   have c4b0 : (t108 == 0) = true := beq_iff_eq.mpr c4
   have c4b1 : (t108 != 0) = false := bne_eq_false_iff_eq.mpr c4
   clear c4
   refine Or.elim (Classical.em (t105 = (-4))) (fun c5 => ?p4_) (fun c5 => ?n4_)
   case' p4_ =>
    rw [if_pos c5] at H
    have c5b0 : (t105 == (-4)) = true := beq_iff_eq.mpr c5
    have c5b1 : (t105 != (-4)) = false := bne_eq_false_iff_eq.mpr c5
    clear c5
    refine Or.elim (Classical.em (t107 = (-3))) (fun c6 => ?p5_) (fun c6 => ?n5_)
    case' p5_ =>
     rw [if_pos c6] at H
     have c6b0 : (t107 == (-3)) = true := beq_iff_eq.mpr c6
     have c6b1 : (t107 != (-3)) = false := bne_eq_false_iff_eq.mpr c6
     clear c6
     replace H := Option.bind_eq_some_iff.mp H
     obtain ⟨t109, A70, H⟩ := H
     replace H : (if t109 = 6 then ((num_Between.f 9 1 5).bind fun t110 => (some (t110 == 5))) else (some false)) = some r := H
     have A7 := Aside0.mk A70
     clear A70
     refine Or.elim (Classical.em (t109 = 6)) (fun c8 => ?p6_) (fun c8 => ?n6_)
     case' p6_ =>
      rw [if_pos c8] at H
      have c8b0 : (t109 == 6) = true := beq_iff_eq.mpr c8
      have c8b1 : (t109 != 6) = false := bne_eq_false_iff_eq.mpr c8
      clear c8
      replace H := Option.bind_eq_some_iff.mp H
      obtain ⟨t110, A90, H⟩ := H
      replace H : (some (t110 == 5)) = some r := H
      have A9 := Aside0.mk A90
      clear A90
     case' n6_ =>
      rw [if_neg c8] at H
      have c8b0 : (t109 == 6) = false := beq_eq_false_iff_ne.mpr c8
      have c8b1 : (t109 != 6) = true := bne_iff_ne.mpr c8
    case' n5_ =>
     rw [if_neg c6] at H
     have c6b0 : (t107 == (-3)) = false := beq_eq_false_iff_ne.mpr c6
     have c6b1 : (t107 != (-3)) = true := bne_iff_ne.mpr c6
   case' n4_ =>
    rw [if_neg c5] at H
    have c5b0 : (t105 == (-4)) = false := beq_eq_false_iff_ne.mpr c5
    have c5b1 : (t105 != (-4)) = true := bne_iff_ne.mpr c5
  case' n3_ =>
   rw [if_neg c4] at H
   have c4b0 : (t108 == 0) = false := beq_eq_false_iff_ne.mpr c4
   have c4b1 : (t108 != 0) = true := bne_iff_ne.mpr c4
 case' n2_ =>
  rw [if_neg c3] at H
  have c3b0 : (t106 == 0) = false := beq_eq_false_iff_ne.mpr c3
  have c3b1 : (t106 != 0) = true := bne_iff_ne.mpr c3
 all_goals
  obtain rfl := Option.some.inj H
  go_enter Try.func15, Try.ntmps15
  go_wp2_with (first | ((with_reducible refine gate_callee (f := 16) rfl ?_); refine goesL_ (some 6) rfl rfl Try.func16 (by kernel_rfl) rfl #[.int .i64 (-7), .int .i64 2] rfl (by (try simp only [List.map_toArray, List.map_cons, List.map_nil]); first | done | rfl | (simp only [List.length_drop, List.length_take]; rfl)) ?_; (with_reducible refine (num_DivDown.calls k (-7) 2 t105 t106 _ A1.out).mono ?_); rintro e wxe55c1 ⟨rfl, hb⟩; refine ⟨_, rfl, ?_⟩; have n0_ := Aside0.mk (below_step (by repeat (first | (with_reducible first | exact HB.out | apply below_alloc | apply pw_below_drewN | apply below_drew1) | exact HB.out)) hb); clear HB; have HB := n0_; clear n0_; (try clear hb); (try clear hb2); (try clear hk); (try clear hi)) | ((with_reducible refine gate_callee (f := 17) rfl ?_); refine goesL_ (some 10) rfl rfl Try.func17 (by kernel_rfl) rfl #[.int .i64 (-7), .int .i64 2] rfl (by (try simp only [List.map_toArray, List.map_cons, List.map_nil]); first | done | rfl | (simp only [List.length_drop, List.length_take]; rfl)) ?_; (with_reducible refine (num_DivUp.calls k (-7) 2 t107 t108 _ A2.out).mono ?_); rintro e wx755d1 ⟨rfl, hb⟩; refine ⟨_, rfl, ?_⟩; have n0_ := Aside0.mk (below_step (by repeat (first | (with_reducible first | exact HB.out | apply below_alloc | apply pw_below_drewN | apply below_drew1) | exact HB.out)) hb); clear HB; have HB := n0_; clear n0_; (try clear hb); (try clear hb2); (try clear hk); (try clear hi)) | (go_at_call 18; (with_reducible refine (num_Gcd.calls k (-12) 18 t109 _ A7.out).mono ?_); rintro e wx7aff1 ⟨rfl, hb⟩; have n0_ := Aside0.mk (below_step (by repeat (first | (with_reducible first | exact HB.out | apply below_alloc | apply pw_below_drewN | apply below_drew1) | exact HB.out)) hb); clear HB; have HB := n0_; clear n0_; (try clear hb); (try clear hb2); (try clear hk); (try clear hi)) | (go_at_call 43; (with_reducible refine (num_Between.calls 9 1 5 t110 _ A9.out).mono ?_); rintro e wxfbf71 ⟨rfl, hb⟩; have n0_ := Aside0.mk (below_step (by repeat (first | (with_reducible first | exact HB.out | apply below_alloc | apply pw_below_drewN | apply below_drew1) | exact HB.out)) hb); clear HB; have HB := n0_; clear n0_; (try clear hb); (try clear hb2); (try clear hk); (try clear hi)))
  go_ret
  exact ⟨by first | rfl | (simp [errW_none, errW_some] <;> rfl) | (simp [*, errW_none, errW_some] <;> rfl), by repeat (first | (with_reducible first | exact HB.out | apply below_alloc | apply pw_below_drewN | apply below_drew1) | exact HB.out)⟩

/-! ### skywaykeep1_NumRounds: function 3 -/
mutual
def skywaykeep1_NumRounds.j0 : Nat → Int → Int → Int → Int → Int → Int → Bool → Option (Bool)
  | 0, _, _, _, _, _, _, _ => none
  | k + 1, x0, x1, x5, x6, x7, x8, x30 => if x30 = true then (if x6 = x8 then (if x5 = 0 then (some (x7 == 0)) else (some false)) else (some false)) else (if x1 < 0 then (if x0 = (-9223372036854775808) then (skywaykeep1_NumRounds.j1 k x0 x1 x5 x7 false) else (skywaykeep1_NumRounds.j1 k x0 x1 x5 x7 (x1 != (-9223372036854775808)))) else (skywaykeep1_NumRounds.j1 k x0 x1 x5 x7 false))
def skywaykeep1_NumRounds.j1 : Nat → Int → Int → Int → Int → Bool → Option (Bool)
  | 0, _, _, _, _, _ => none
  | k + 1, x0, x1, x5, x7, x51 => if x51 = true then ((num_DivDown.f k (wrap64 (-x0)) (wrap64 (-x1))).bind fun bt116 => (if bt116.2 = 0 then (if bt116.1 = x5 then (if (wrap64 (x7 - x5)) = 0 then (if (wrap64 (x5 * x1)) = x0 then (some true) else (if (wrap64 (x7 - x5)) = 1 then (some ((wrap64 (x5 * x1)) != x0)) else (some false))) else (if (wrap64 (x7 - x5)) = 1 then (some ((wrap64 (x5 * x1)) != x0)) else (some false))) else (some false)) else (some false))) else (if (wrap64 (x7 - x5)) = 0 then (if (wrap64 (x5 * x1)) = x0 then (some true) else (if (wrap64 (x7 - x5)) = 1 then (some ((wrap64 (x5 * x1)) != x0)) else (some false))) else (if (wrap64 (x7 - x5)) = 1 then (some ((wrap64 (x5 * x1)) != x0)) else (some false)))
end
def skywaykeep1_NumRounds.f (k : Nat) (a0 : Int) (a1 : Int) : Option (Bool) := (skywaykeep1_numWorks.f k).bind fun t111 => (if t111 = true then ((num_DivDown.f k a0 a1).bind fun bt112 => ((num_DivUp.f k a0 a1).bind fun bt114 => (if bt112.2 = 0 then (skywaykeep1_NumRounds.j0 k a0 a1 bt112.1 bt112.2 bt114.1 bt114.2 (bt114.2 != 0)) else (skywaykeep1_NumRounds.j0 k a0 a1 bt112.1 bt112.2 bt114.1 bt114.2 true)))) else (some false))
theorem skywaykeep1_NumRounds.mono_l : ∀ k, (∀ y0 y1 y2 y3 y4 y5 y6, LeO (skywaykeep1_NumRounds.j0 k y0 y1 y2 y3 y4 y5 y6) (skywaykeep1_NumRounds.j0 (k + 1) y0 y1 y2 y3 y4 y5 y6)) ∧ (∀ y0 y1 y2 y3 y4, LeO (skywaykeep1_NumRounds.j1 k y0 y1 y2 y3 y4) (skywaykeep1_NumRounds.j1 (k + 1) y0 y1 y2 y3 y4))
  | 0 => ⟨fun _ _ _ _ _ _ _ r h => by simp [skywaykeep1_NumRounds.j0] at h, fun _ _ _ _ _ r h => by simp [skywaykeep1_NumRounds.j1] at h⟩
  | k + 1 => by
    obtain ⟨ih0, ih1⟩ := skywaykeep1_NumRounds.mono_l k
    refine ⟨?_, ?_⟩
    · intro y0 y1 y2 y3 y4 y5 y6
      unfold skywaykeep1_NumRounds.j0
      repeat' first
      | (with_reducible exact ih0 _ _ _ _ _ _ _)
      | (with_reducible exact ih1 _ _ _ _ _)
      | (with_reducible exact num_DivDown.mono _ _ _)
      | (with_reducible exact num_DivUp.mono _ _ _)
      | (with_reducible exact skywaykeep1_numWorks.mono _)
      | (with_reducible exact LeO.refl _)
      | (with_reducible exact LeO.none _)
      | (with_reducible refine LeO.ite ?_ ?_)
      | (with_reducible refine LeO.bind ?_ (fun _ => ?_))
      | exact ih0 _ _ _ _ _ _ _
      | exact ih1 _ _ _ _ _
      | exact num_DivDown.mono _ _ _
      | exact num_DivUp.mono _ _ _
      | exact skywaykeep1_numWorks.mono _
      | exact LeO.none _
      | refine LeO.ite ?_ ?_
      | refine LeO.bind ?_ (fun _ => ?_)
    · intro y0 y1 y2 y3 y4
      unfold skywaykeep1_NumRounds.j1
      repeat' first
      | (with_reducible exact ih0 _ _ _ _ _ _ _)
      | (with_reducible exact ih1 _ _ _ _ _)
      | (with_reducible exact num_DivDown.mono _ _ _)
      | (with_reducible exact num_DivUp.mono _ _ _)
      | (with_reducible exact skywaykeep1_numWorks.mono _)
      | (with_reducible exact LeO.refl _)
      | (with_reducible exact LeO.none _)
      | (with_reducible refine LeO.ite ?_ ?_)
      | (with_reducible refine LeO.bind ?_ (fun _ => ?_))
      | exact ih0 _ _ _ _ _ _ _
      | exact ih1 _ _ _ _ _
      | exact num_DivDown.mono _ _ _
      | exact num_DivUp.mono _ _ _
      | exact skywaykeep1_numWorks.mono _
      | exact LeO.none _
      | refine LeO.ite ?_ ?_
      | refine LeO.bind ?_ (fun _ => ?_)
theorem skywaykeep1_NumRounds.mono : ∀ a0 a1 k, LeO (skywaykeep1_NumRounds.f k a0 a1) (skywaykeep1_NumRounds.f (k + 1) a0 a1) := by
  intro a0 a1 k
  obtain ⟨ih0, ih1⟩ := skywaykeep1_NumRounds.mono_l k
  unfold skywaykeep1_NumRounds.f
  repeat' first
      | (with_reducible exact ih0 _ _ _ _ _ _ _)
      | (with_reducible exact ih1 _ _ _ _ _)
      | (with_reducible exact num_DivDown.mono _ _ _)
      | (with_reducible exact num_DivUp.mono _ _ _)
      | (with_reducible exact skywaykeep1_numWorks.mono _)
      | (with_reducible exact LeO.refl _)
      | (with_reducible exact LeO.none _)
      | (with_reducible refine LeO.ite ?_ ?_)
      | (with_reducible refine LeO.bind ?_ (fun _ => ?_))
      | exact ih0 _ _ _ _ _ _ _
      | exact ih1 _ _ _ _ _
      | exact num_DivDown.mono _ _ _
      | exact num_DivUp.mono _ _ _
      | exact skywaykeep1_numWorks.mono _
      | exact LeO.none _
      | refine LeO.ite ?_ ?_
      | refine LeO.bind ?_ (fun _ => ?_)
set_option maxHeartbeats 8000000 in
set_option maxRecDepth 100000 in
theorem skywaykeep1_NumRounds.calls (k : Nat) (a0 : Int) (a1 : Int) (r : Bool) (w : World) (h : skywaykeep1_NumRounds.f k a0 a1 = some r) :
    Calls Try.prog 3 #[.int .i64 a0, .int .i64 a1] w fun e w' => e = .returned (.bool r) ∧ Below w.heap.size w w' := by
 have HB := Aside0.mk (Below.refl w.heap.size w)
 have H : ((skywaykeep1_numWorks.f k).bind fun t111 => (if t111 = true then ((num_DivDown.f k a0 a1).bind fun bt112 => ((num_DivUp.f k a0 a1).bind fun bt114 => (if bt112.2 = 0 then (skywaykeep1_NumRounds.j0 k a0 a1 bt112.1 bt112.2 bt114.1 bt114.2 (bt114.2 != 0)) else (skywaykeep1_NumRounds.j0 k a0 a1 bt112.1 bt112.2 bt114.1 bt114.2 true)))) else (some false))) = some r := h
 clear h
 replace H := Option.bind_eq_some_iff.mp H
 obtain ⟨t111, A30, H⟩ := H
 replace H : (if t111 = true then ((num_DivDown.f k a0 a1).bind fun bt112 => ((num_DivUp.f k a0 a1).bind fun bt114 => (if bt112.2 = 0 then (skywaykeep1_NumRounds.j0 k a0 a1 bt112.1 bt112.2 bt114.1 bt114.2 (bt114.2 != 0)) else (skywaykeep1_NumRounds.j0 k a0 a1 bt112.1 bt112.2 bt114.1 bt114.2 true)))) else (some false)) = some r := H
 have A3 := Aside0.mk A30
 clear A30
 by_cases c4 : t111 = true
 · subst c4
   have H1 : ((num_DivDown.f k a0 a1).bind fun bt112 => ((num_DivUp.f k a0 a1).bind fun bt114 => (if bt112.2 = 0 then (skywaykeep1_NumRounds.j0 k a0 a1 bt112.1 bt112.2 bt114.1 bt114.2 (bt114.2 != 0)) else (skywaykeep1_NumRounds.j0 k a0 a1 bt112.1 bt112.2 bt114.1 bt114.2 true)))) = some r := by rw [if_pos rfl] at H; exact H
   clear H
   have H := H1
   clear H1
   replace H := Option.bind_eq_some_iff.mp H
   obtain ⟨⟨t112, t113⟩, A50, H⟩ := H
   replace H : ((num_DivUp.f k a0 a1).bind fun bt114 => (if t113 = 0 then (skywaykeep1_NumRounds.j0 k a0 a1 t112 t113 bt114.1 bt114.2 (bt114.2 != 0)) else (skywaykeep1_NumRounds.j0 k a0 a1 t112 t113 bt114.1 bt114.2 true))) = some r := H
   have A5 := Aside0.mk A50
   clear A50
   replace H := Option.bind_eq_some_iff.mp H
   obtain ⟨⟨t114, t115⟩, A60, H⟩ := H
   replace H : (if t113 = 0 then (skywaykeep1_NumRounds.j0 k a0 a1 t112 t113 t114 t115 (t115 != 0)) else (skywaykeep1_NumRounds.j0 k a0 a1 t112 t113 t114 t115 true)) = some r := H
   have A6 := Aside0.mk A60
   clear A60
   have HC7 := Aside0.mk H
   clear H
   go_enter Try.func3, Try.ntmps3
   go_upto_region 5 with (first | ((with_reducible refine gate_callee (f := 15) rfl ?_); refine goesL_ (some 11) rfl rfl Try.func15 (by kernel_rfl) rfl #[] rfl (by (try simp only [List.map_toArray, List.map_cons, List.map_nil]); first | done | rfl | (simp only [List.length_drop, List.length_take]; rfl)) ?_; (with_reducible refine (skywaykeep1_numWorks.calls k  true _ A3.out).mono ?_); rintro e wxbbad1 ⟨rfl, hb⟩; refine ⟨_, rfl, ?_⟩; have n0_ := Aside0.mk (below_step (by repeat (first | (with_reducible first | exact HB.out | apply below_alloc | apply pw_below_drewN | apply below_drew1) | exact HB.out)) hb); clear HB; have HB := n0_; clear n0_; (try clear hb); (try clear hb2); (try clear hk); (try clear hi)) | ((with_reducible refine gate_callee (f := 16) rfl ?_); refine goesL_ (some 16) rfl rfl Try.func16 (by kernel_rfl) rfl #[.int .i64 a0, .int .i64 a1] rfl (by (try simp only [List.map_toArray, List.map_cons, List.map_nil]); first | done | rfl | (simp only [List.length_drop, List.length_take]; rfl)) ?_; (with_reducible refine (num_DivDown.calls k a0 a1 t112 t113 _ A5.out).mono ?_); rintro e wxbc411 ⟨rfl, hb⟩; refine ⟨_, rfl, ?_⟩; have n0_ := Aside0.mk (below_step (by repeat (first | (with_reducible first | exact HB.out | apply below_alloc | apply pw_below_drewN | apply below_drew1) | exact HB.out)) hb); clear HB; have HB := n0_; clear n0_; (try clear hb); (try clear hb2); (try clear hk); (try clear hi)) | ((with_reducible refine gate_callee (f := 17) rfl ?_); refine goesL_ (some 22) rfl rfl Try.func17 (by kernel_rfl) rfl #[.int .i64 a0, .int .i64 a1] rfl (by (try simp only [List.map_toArray, List.map_cons, List.map_nil]); first | done | rfl | (simp only [List.length_drop, List.length_take]; rfl)) ?_; (with_reducible refine (num_DivUp.calls k a0 a1 t114 t115 _ A6.out).mono ?_); rintro e wx13261 ⟨rfl, hb⟩; refine ⟨_, rfl, ?_⟩; have n0_ := Aside0.mk (below_step (by repeat (first | (with_reducible first | exact HB.out | apply below_alloc | apply pw_below_drewN | apply below_drew1) | exact HB.out)) hb); clear HB; have HB := n0_; clear n0_; (try clear hb); (try clear hb2); (try clear hk); (try clear hi)))
   (try simp only [Act.put, List.setIfInBounds_toArray, List.set_cons_zero, List.set_cons_succ])
   go_cut [30] (fun v30 wc => ∃ (kq : Nat) (x30_6 : Bool), v30 = .bool x30_6 ∧ Aside0 (skywaykeep1_NumRounds.j0 kq a0 a1 t112 t113 t114 t115 x30_6 = some r) ∧ Aside0 (kq ≤ k) ∧ Aside0 (Below w.heap.size w wc))
   case first =>
    have H := HC7.out
    clear HC7
    refine Or.elim (Classical.em (t113 = 0)) (fun c11 => ?p2_) (fun c11 => ?n2_)
    case' p2_ =>
     rw [if_pos c11] at H
     have c11b0 : (t113 == 0) = true := beq_iff_eq.mpr c11
     have c11b1 : (t113 != 0) = false := bne_eq_false_iff_eq.mpr c11
     clear c11
     (first | rw [c11b0] | (simp only [i64_w, i32_w]; rw [c11b0]) | skip)
    case' n2_ =>
     rw [if_neg c11] at H
     have c11b0 : (t113 == 0) = false := beq_eq_false_iff_ne.mpr c11
     have c11b1 : (t113 != 0) = true := bne_iff_ne.mpr c11
     (first | rw [c11b0] | (simp only [i64_w, i32_w]; rw [c11b0]) | skip)
    all_goals
     have H' := Aside0.mk H
     clear H
     go_wp2
     go_meet
     case rel => first | (exact ⟨_, ((t115 != 0)), (by first | rfl | (simp; done) | (simp [*]; done)), H', ⟨by first | omega | exact Nat.le_refl _⟩, ⟨by repeat (first | (with_reducible first | exact HB.out | apply below_alloc | apply pw_below_drewN | apply below_drew1) | exact HB.out)⟩⟩) | (exact ⟨_, (true), (by first | rfl | (simp; done) | (simp [*]; done)), H', ⟨by first | omega | exact Nat.le_refl _⟩, ⟨by repeat (first | (with_reducible first | exact HB.out | apply below_alloc | apply pw_below_drewN | apply below_drew1) | exact HB.out)⟩⟩)
   case rest =>
    clear HC7
    (try clear c1); (try clear p1); (try clear p2); (try clear c3); (try clear c4); (try clear c11); (try clear c11b0); (try clear c11b1)
    obtain ⟨kq, x30_6, rfl, HA, HJ6, HB⟩ := hcut
    cases kq with
    | zero => exact absurd HA.out (by simp [skywaykeep1_NumRounds.j0])
    | succ kj6 =>
     have H := HA.out
     clear HA
     simp only [skywaykeep1_NumRounds.j0] at H
     refine Or.elim (Classical.em (x30_6 = true)) (fun c12 => ?p4_) (fun c12 => ?n4_)
     case' p4_ =>
      subst c12
      have H1 : (if t113 = t115 then (if t112 = 0 then (some (t114 == 0)) else (some false)) else (some false)) = some r := by rw [if_pos rfl] at H; exact H
      clear H
      have H := H1
      clear H1
      refine Or.elim (Classical.em (t113 = t115)) (fun c13 => ?p5_) (fun c13 => ?n5_)
      case' p5_ =>
       rw [if_pos c13] at H
       have c13b0 : (t113 == t115) = true := beq_iff_eq.mpr c13
       have c13b1 : (t113 != t115) = false := bne_eq_false_iff_eq.mpr c13
       clear c13
       refine Or.elim (Classical.em (t112 = 0)) (fun c14 => ?p6_) (fun c14 => ?n6_)
       case' p6_ =>
        rw [if_pos c14] at H
        have c14b0 : (t112 == 0) = true := beq_iff_eq.mpr c14
        have c14b1 : (t112 != 0) = false := bne_eq_false_iff_eq.mpr c14
        clear c14
        have hm3_0 := Aside0.mk trivial
       case' n6_ =>
        rw [if_neg c14] at H
        have c14b0 : (t112 == 0) = false := beq_eq_false_iff_ne.mpr c14
        have c14b1 : (t112 != 0) = true := bne_iff_ne.mpr c14
        have hm3_0 := Aside0.mk trivial
      case' n5_ =>
       rw [if_neg c13] at H
       have c13b0 : (t113 == t115) = false := beq_eq_false_iff_ne.mpr c13
       have c13b1 : (t113 != t115) = true := bne_iff_ne.mpr c13
       have hm3_0 := Aside0.mk trivial
     case' n4_ =>
      replace c12 := Bool.eq_false_iff.mpr c12
      subst c12
      have H1 : (if a1 < 0 then (if a0 = (-9223372036854775808) then (skywaykeep1_NumRounds.j1 kj6 a0 a1 t112 t114 false) else (skywaykeep1_NumRounds.j1 kj6 a0 a1 t112 t114 (a1 != (-9223372036854775808)))) else (skywaykeep1_NumRounds.j1 kj6 a0 a1 t112 t114 false)) = some r := by rw [if_neg (show ¬ (false = true) by decide)] at H; exact H
      clear H
      have H := H1
      clear H1
      have HC15 := Aside0.mk H
      clear H
      have hm3_1 := Aside0.mk trivial
     all_goals
      first
       | clear hm3_0
         obtain rfl := Option.some.inj H
         go_wp2
         go_ret
         exact ⟨by first | rfl | (simp [errW_none, errW_some] <;> rfl) | (simp [*, errW_none, errW_some] <;> rfl), by repeat (first | (with_reducible first | exact HB.out | apply below_alloc | apply pw_below_drewN | apply below_drew1) | exact HB.out)⟩
       | clear hm3_1
         go_upto_region 7 with (fail)
         go_cut [51] (fun v51 wc => ∃ (kq : Nat) (x51_14 : Bool), v51 = .bool x51_14 ∧ Aside0 (skywaykeep1_NumRounds.j1 kq a0 a1 t112 t114 x51_14 = some r) ∧ Aside0 (kq ≤ kj6) ∧ Aside0 (Below w.heap.size w wc))
         case first =>
          have H := HC15.out
          clear HC15
          refine Or.elim (Classical.em (a1 < 0)) (fun c16 => ?p8_) (fun c16 => ?n8_)
          case' p8_ =>
           rw [if_pos c16] at H
           have c16b0 : decide (a1 < 0) = true := decide_eq_true c16
           clear c16
           (first | rw [c16b0] | (simp only [i64_w, i32_w]; rw [c16b0]) | skip)
           refine Or.elim (Classical.em (a0 = (-9223372036854775808))) (fun c17 => ?p9_) (fun c17 => ?n9_)
           case' p9_ =>
            rw [if_pos c17] at H
            have c17b0 : (a0 == (-9223372036854775808)) = true := beq_iff_eq.mpr c17
            have c17b1 : (a0 != (-9223372036854775808)) = false := bne_eq_false_iff_eq.mpr c17
            clear c17
           case' n9_ =>
            rw [if_neg c17] at H
            have c17b0 : (a0 == (-9223372036854775808)) = false := beq_eq_false_iff_ne.mpr c17
            have c17b1 : (a0 != (-9223372036854775808)) = true := bne_iff_ne.mpr c17
          case' n8_ =>
           rw [if_neg c16] at H
           have c16b0 : decide (a1 < 0) = false := decide_eq_false c16
           clear c16
           (first | rw [c16b0] | (simp only [i64_w, i32_w]; rw [c16b0]) | skip)
          all_goals
           have H' := Aside0.mk H
           clear H
           go_wp2
           go_meet
           case rel => first | (exact ⟨_, (false), (by first | rfl | (simp; done) | (simp [*]; done)), H', ⟨by have := HJ6.out; first | omega | exact Nat.le_refl _⟩, ⟨by repeat (first | (with_reducible first | exact HB.out | apply below_alloc | apply pw_below_drewN | apply below_drew1) | exact HB.out)⟩⟩) | (exact ⟨_, ((a1 != (-9223372036854775808))), (by first | rfl | (simp; done) | (simp [*]; done)), H', ⟨by have := HJ6.out; first | omega | exact Nat.le_refl _⟩, ⟨by repeat (first | (with_reducible first | exact HB.out | apply below_alloc | apply pw_below_drewN | apply below_drew1) | exact HB.out)⟩⟩)
         case rest =>
          clear HC15
          (try clear c1); (try clear p1); (try clear p2); (try clear c3); (try clear c4); (try clear c11); (try clear c11b0); (try clear c11b1); (try clear c12); (try clear c13); (try clear c13b0); (try clear c13b1); (try clear c14); (try clear c14b0); (try clear c14b1); (try clear c15); (try clear c16); (try clear c16b0); (try clear c17); (try clear c17b0); (try clear c17b1); (try clear p1); (try clear p2)
          obtain ⟨kq, x51_14, rfl, HA, HJ14, HB⟩ := hcut
          cases kq with
          | zero => exact absurd HA.out (by simp [skywaykeep1_NumRounds.j1])
          | succ kj14 =>
           have H := HA.out
           clear HA
           simp only [skywaykeep1_NumRounds.j1] at H
           refine Or.elim (Classical.em (x51_14 = true)) (fun c18 => ?p11_) (fun c18 => ?n11_)
           case' p11_ =>
            subst c18
            have H1 : ((num_DivDown.f kj14 (wrap64 (-a0)) (wrap64 (-a1))).bind fun bt116 => (if bt116.2 = 0 then (if bt116.1 = t112 then (if (wrap64 (t114 - t112)) = 0 then (if (wrap64 (t112 * a1)) = a0 then (some true) else (if (wrap64 (t114 - t112)) = 1 then (some ((wrap64 (t112 * a1)) != a0)) else (some false))) else (if (wrap64 (t114 - t112)) = 1 then (some ((wrap64 (t112 * a1)) != a0)) else (some false))) else (some false)) else (some false))) = some r := by rw [if_pos rfl] at H; exact H
            clear H
            have H := H1
            clear H1
            replace H := Option.bind_eq_some_iff.mp H
            obtain ⟨⟨t116, t117⟩, A190, H⟩ := H
            replace H : (if t117 = 0 then (if t116 = t112 then (if (wrap64 (t114 - t112)) = 0 then (if (wrap64 (t112 * a1)) = a0 then (some true) else (if (wrap64 (t114 - t112)) = 1 then (some ((wrap64 (t112 * a1)) != a0)) else (some false))) else (if (wrap64 (t114 - t112)) = 1 then (some ((wrap64 (t112 * a1)) != a0)) else (some false))) else (some false)) else (some false)) = some r := H
            have A19 := Aside0.mk A190
            clear A190
            refine Or.elim (Classical.em (t117 = 0)) (fun c20 => ?p12_) (fun c20 => ?n12_)
            case' p12_ =>
             rw [if_pos c20] at H
             have c20b0 : (t117 == 0) = true := beq_iff_eq.mpr c20
             have c20b1 : (t117 != 0) = false := bne_eq_false_iff_eq.mpr c20
             clear c20
             refine Or.elim (Classical.em (t116 = t112)) (fun c21 => ?p13_) (fun c21 => ?n13_)
             case' p13_ =>
              rw [if_pos c21] at H
              have c21b0 : (t116 == t112) = true := beq_iff_eq.mpr c21
              have c21b1 : (t116 != t112) = false := bne_eq_false_iff_eq.mpr c21
              clear c21
              refine Or.elim (Classical.em ((wrap64 (t114 - t112)) = 0)) (fun c22 => ?p14_) (fun c22 => ?n14_)
              case' p14_ =>
               rw [if_pos c22] at H
               have c22b0 : ((wrap64 (t114 - t112)) == 0) = true := beq_iff_eq.mpr c22
               have c22b1 : ((wrap64 (t114 - t112)) != 0) = false := bne_eq_false_iff_eq.mpr c22
               clear c22
               refine Or.elim (Classical.em ((wrap64 (t112 * a1)) = a0)) (fun c23 => ?p15_) (fun c23 => ?n15_)
               case' p15_ =>
                rw [if_pos c23] at H
                have c23b0 : ((wrap64 (t112 * a1)) == a0) = true := beq_iff_eq.mpr c23
                have c23b1 : ((wrap64 (t112 * a1)) != a0) = false := bne_eq_false_iff_eq.mpr c23
                clear c23
                have hm10_0 := Aside0.mk trivial
               case' n15_ =>
                rw [if_neg c23] at H
                have c23b0 : ((wrap64 (t112 * a1)) == a0) = false := beq_eq_false_iff_ne.mpr c23
                have c23b1 : ((wrap64 (t112 * a1)) != a0) = true := bne_iff_ne.mpr c23
                refine Or.elim (Classical.em ((wrap64 (t114 - t112)) = 1)) (fun c25 => ?p16_) (fun c25 => ?n16_)
                case' p16_ =>
                 rw [if_pos c25] at H
                 have c25b0 : ((wrap64 (t114 - t112)) == 1) = true := beq_iff_eq.mpr c25
                 have c25b1 : ((wrap64 (t114 - t112)) != 1) = false := bne_eq_false_iff_eq.mpr c25
                 clear c25
                 have hm10_0 := Aside0.mk trivial
                case' n16_ =>
                 rw [if_neg c25] at H
                 have c25b0 : ((wrap64 (t114 - t112)) == 1) = false := beq_eq_false_iff_ne.mpr c25
                 have c25b1 : ((wrap64 (t114 - t112)) != 1) = true := bne_iff_ne.mpr c25
                 have hm10_0 := Aside0.mk trivial
              case' n14_ =>
               rw [if_neg c22] at H
               have c22b0 : ((wrap64 (t114 - t112)) == 0) = false := beq_eq_false_iff_ne.mpr c22
               have c22b1 : ((wrap64 (t114 - t112)) != 0) = true := bne_iff_ne.mpr c22
               refine Or.elim (Classical.em ((wrap64 (t114 - t112)) = 1)) (fun c28 => ?p17_) (fun c28 => ?n17_)
               case' p17_ =>
                rw [if_pos c28] at H
                have c28b0 : ((wrap64 (t114 - t112)) == 1) = true := beq_iff_eq.mpr c28
                have c28b1 : ((wrap64 (t114 - t112)) != 1) = false := bne_eq_false_iff_eq.mpr c28
                clear c28
                have hm10_0 := Aside0.mk trivial
               case' n17_ =>
                rw [if_neg c28] at H
                have c28b0 : ((wrap64 (t114 - t112)) == 1) = false := beq_eq_false_iff_ne.mpr c28
                have c28b1 : ((wrap64 (t114 - t112)) != 1) = true := bne_iff_ne.mpr c28
                have hm10_0 := Aside0.mk trivial
             case' n13_ =>
              rw [if_neg c21] at H
              have c21b0 : (t116 == t112) = false := beq_eq_false_iff_ne.mpr c21
              have c21b1 : (t116 != t112) = true := bne_iff_ne.mpr c21
              have hm10_0 := Aside0.mk trivial
            case' n12_ =>
             rw [if_neg c20] at H
             have c20b0 : (t117 == 0) = false := beq_eq_false_iff_ne.mpr c20
             have c20b1 : (t117 != 0) = true := bne_iff_ne.mpr c20
             have hm10_0 := Aside0.mk trivial
           case' n11_ =>
            replace c18 := Bool.eq_false_iff.mpr c18
            subst c18
            have H1 : (if (wrap64 (t114 - t112)) = 0 then (if (wrap64 (t112 * a1)) = a0 then (some true) else (if (wrap64 (t114 - t112)) = 1 then (some ((wrap64 (t112 * a1)) != a0)) else (some false))) else (if (wrap64 (t114 - t112)) = 1 then (some ((wrap64 (t112 * a1)) != a0)) else (some false))) = some r := by rw [if_neg (show ¬ (false = true) by decide)] at H; exact H
            clear H
            have H := H1
            clear H1
            refine Or.elim (Classical.em ((wrap64 (t114 - t112)) = 0)) (fun c33 => ?p18_) (fun c33 => ?n18_)
            case' p18_ =>
             rw [if_pos c33] at H
             have c33b0 : ((wrap64 (t114 - t112)) == 0) = true := beq_iff_eq.mpr c33
             have c33b1 : ((wrap64 (t114 - t112)) != 0) = false := bne_eq_false_iff_eq.mpr c33
             clear c33
             refine Or.elim (Classical.em ((wrap64 (t112 * a1)) = a0)) (fun c34 => ?p19_) (fun c34 => ?n19_)
             case' p19_ =>
              rw [if_pos c34] at H
              have c34b0 : ((wrap64 (t112 * a1)) == a0) = true := beq_iff_eq.mpr c34
              have c34b1 : ((wrap64 (t112 * a1)) != a0) = false := bne_eq_false_iff_eq.mpr c34
              clear c34
              have hm10_1 := Aside0.mk trivial
             case' n19_ =>
              rw [if_neg c34] at H
              have c34b0 : ((wrap64 (t112 * a1)) == a0) = false := beq_eq_false_iff_ne.mpr c34
              have c34b1 : ((wrap64 (t112 * a1)) != a0) = true := bne_iff_ne.mpr c34
              refine Or.elim (Classical.em ((wrap64 (t114 - t112)) = 1)) (fun c35 => ?p20_) (fun c35 => ?n20_)
              case' p20_ =>
               rw [if_pos c35] at H
               have c35b0 : ((wrap64 (t114 - t112)) == 1) = true := beq_iff_eq.mpr c35
               have c35b1 : ((wrap64 (t114 - t112)) != 1) = false := bne_eq_false_iff_eq.mpr c35
               clear c35
               have hm10_1 := Aside0.mk trivial
              case' n20_ =>
               rw [if_neg c35] at H
               have c35b0 : ((wrap64 (t114 - t112)) == 1) = false := beq_eq_false_iff_ne.mpr c35
               have c35b1 : ((wrap64 (t114 - t112)) != 1) = true := bne_iff_ne.mpr c35
               have hm10_1 := Aside0.mk trivial
            case' n18_ =>
             rw [if_neg c33] at H
             have c33b0 : ((wrap64 (t114 - t112)) == 0) = false := beq_eq_false_iff_ne.mpr c33
             have c33b1 : ((wrap64 (t114 - t112)) != 0) = true := bne_iff_ne.mpr c33
             refine Or.elim (Classical.em ((wrap64 (t114 - t112)) = 1)) (fun c36 => ?p21_) (fun c36 => ?n21_)
             case' p21_ =>
              rw [if_pos c36] at H
              have c36b0 : ((wrap64 (t114 - t112)) == 1) = true := beq_iff_eq.mpr c36
              have c36b1 : ((wrap64 (t114 - t112)) != 1) = false := bne_eq_false_iff_eq.mpr c36
              clear c36
              have hm10_1 := Aside0.mk trivial
             case' n21_ =>
              rw [if_neg c36] at H
              have c36b0 : ((wrap64 (t114 - t112)) == 1) = false := beq_eq_false_iff_ne.mpr c36
              have c36b1 : ((wrap64 (t114 - t112)) != 1) = true := bne_iff_ne.mpr c36
              have hm10_1 := Aside0.mk trivial
           all_goals
            obtain rfl := Option.some.inj H
            first
             | clear hm10_0
               go_wp2_with (first | ((with_reducible refine gate_callee (f := 16) rfl ?_); refine goesL_ (some 57) rfl rfl Try.func16 (by kernel_rfl) rfl #[.int .i64 (wrap64 (-a0)), .int .i64 (wrap64 (-a1))] rfl (by (try simp only [List.map_toArray, List.map_cons, List.map_nil]); first | done | rfl | (simp only [List.length_drop, List.length_take]; rfl)) ?_; (with_reducible refine (num_DivDown.calls kj14 (wrap64 (-a0)) (wrap64 (-a1)) t116 t117 _ A19.out).mono ?_); rintro e wx02911 ⟨rfl, hb⟩; refine ⟨_, rfl, ?_⟩; have n0_ := Aside0.mk (below_step (by repeat (first | (with_reducible first | exact HB.out | apply below_alloc | apply pw_below_drewN | apply below_drew1) | exact HB.out)) hb); clear HB; have HB := n0_; clear n0_; (try clear hb); (try clear hb2); (try clear hk); (try clear hi)))
               go_ret
               exact ⟨by first | rfl | (simp [errW_none, errW_some] <;> rfl) | (simp [*, errW_none, errW_some] <;> rfl), by repeat (first | (with_reducible first | exact HB.out | apply below_alloc | apply pw_below_drewN | apply below_drew1) | exact HB.out)⟩
             | clear hm10_1
               go_wp2
               go_ret
               exact ⟨by first | rfl | (simp [errW_none, errW_some] <;> rfl) | (simp [*, errW_none, errW_some] <;> rfl), by repeat (first | (with_reducible first | exact HB.out | apply below_alloc | apply pw_below_drewN | apply below_drew1) | exact HB.out)⟩
 · replace c4 := Bool.eq_false_iff.mpr c4
   subst c4
   have H1 : (some false) = some r := by rw [if_neg (show ¬ (false = true) by decide)] at H; exact H
   clear H
   have H := H1
   clear H1
   obtain rfl := Option.some.inj H
   go_enter Try.func3, Try.ntmps3
   go_wp2_with (first | ((with_reducible refine gate_callee (f := 15) rfl ?_); refine goesL_ (some 11) rfl rfl Try.func15 (by kernel_rfl) rfl #[] rfl (by (try simp only [List.map_toArray, List.map_cons, List.map_nil]); first | done | rfl | (simp only [List.length_drop, List.length_take]; rfl)) ?_; (with_reducible refine (skywaykeep1_numWorks.calls k  false _ A3.out).mono ?_); rintro e wx99c41 ⟨rfl, hb⟩; refine ⟨_, rfl, ?_⟩; have n0_ := Aside0.mk (below_step (by repeat (first | (with_reducible first | exact HB.out | apply below_alloc | apply pw_below_drewN | apply below_drew1) | exact HB.out)) hb); clear HB; have HB := n0_; clear n0_; (try clear hb); (try clear hb2); (try clear hk); (try clear hi)))
   go_ret
   exact ⟨by first | rfl | (simp [errW_none, errW_some] <;> rfl) | (simp [*, errW_none, errW_some] <;> rfl), by repeat (first | (with_reducible first | exact HB.out | apply below_alloc | apply pw_below_drewN | apply below_drew1) | exact HB.out)⟩

/-- THE ONE PURE STATEMENT of skywaykeep1_NumRounds. -/
def skywaykeep1_NumRounds.Pure : Prop := ∀ (a0 : Int) (a1 : Int), ((Lit.int .i64 a0).wf = true) → ((Lit.int .i64 a1).wf = true) → ∃ k, skywaykeep1_NumRounds.f k a0 a1 = some true

end Go.Proofs.Ytaahnfajcbkknaa.PNumRounds
