/- Made by a program of this session (wip/tools/myprint.py, over the kit's printer): that the Go functions answer as the Lean functions printed beside them. -/
import Derived.Test.YtaahnfajcbkknaaPNumDividesx0
namespace Go.Proofs.Ytaahnfajcbkknaa.PNumDivides
open Go.RowKit Go.Proofs.YtaahnfajcbkknaaW.PrintWords Go.Proofs.YtaahnfajcbkknaaW.PrintLast Go.Proofs.YtaahnfajcbkknaaW.PrintMore
attribute [local go_sem] max2_int min2_int max_two min_two max_three min_three max_four min_four   -- for this text's walks alone
set_option linter.unusedVariables false
set_option linter.unusedSimpArgs false

/-! ### num_DivDown: function 16 -/
def num_DivDown.j0 : Nat → Int → Int → Bool → Option (Int × Int)
  | 0, _, _, _ => none
  | k + 1, x0, x1, x10 => if x10 = true then (some (0, 2)) else (if x1 = 0 then (none) else (if (Int.tmod x0 x1) = 0 then (some (wrap64 (Int.tdiv x0 x1), 0)) else (if ((decide (x0 < 0)) != (decide (x1 < 0))) = true then (some (wrap64 ((wrap64 (Int.tdiv x0 x1)) - 1), 0)) else (some (wrap64 (Int.tdiv x0 x1), 0)))))
def num_DivDown.f (k : Nat) (a0 : Int) (a1 : Int) : Option (Int × Int) := if a1 = 0 then (some (0, 10)) else (if a0 = (-9223372036854775808) then (num_DivDown.j0 k a0 a1 (a1 == (-1))) else (num_DivDown.j0 k a0 a1 false))
theorem num_DivDown.mono_l : ∀ k, (∀ y0 y1 y2, LeO (num_DivDown.j0 k y0 y1 y2) (num_DivDown.j0 (k + 1) y0 y1 y2))
  | 0 => fun _ _ _ r h => by simp [num_DivDown.j0] at h
  | k + 1 => by
    have ih0 := num_DivDown.mono_l k
    · intro y0 y1 y2
      unfold num_DivDown.j0
      repeat' first
      | (with_reducible exact ih0 _ _ _)
      | (with_reducible exact LeO.refl _)
      | (with_reducible exact LeO.none _)
      | (with_reducible refine LeO.ite ?_ ?_)
      | (with_reducible refine LeO.bind ?_ (fun _ => ?_))
      | exact ih0 _ _ _
      | exact LeO.none _
      | refine LeO.ite ?_ ?_
      | refine LeO.bind ?_ (fun _ => ?_)
theorem num_DivDown.mono : ∀ a0 a1 k, LeO (num_DivDown.f k a0 a1) (num_DivDown.f (k + 1) a0 a1) := by
  intro a0 a1 k
  have ih0 := num_DivDown.mono_l k
  unfold num_DivDown.f
  repeat' first
      | (with_reducible exact ih0 _ _ _)
      | (with_reducible exact LeO.refl _)
      | (with_reducible exact LeO.none _)
      | (with_reducible refine LeO.ite ?_ ?_)
      | (with_reducible refine LeO.bind ?_ (fun _ => ?_))
      | exact ih0 _ _ _
      | exact LeO.none _
      | refine LeO.ite ?_ ?_
      | refine LeO.bind ?_ (fun _ => ?_)
set_option maxHeartbeats 8000000 in
set_option maxRecDepth 100000 in
theorem num_DivDown.calls (k : Nat) (a0 : Int) (a1 : Int) (r1 : Int) (r2 : Int) (w : World) (h : num_DivDown.f k a0 a1 = some (r1, r2)) :
    Calls Try.prog 16 #[.int .i64 a0, .int .i64 a1] w fun e w' => e = .returned (.tuple #[.int .i64 r1, .int .i64 r2]) ∧ Below w.heap.size w w' := by
 have HB := Aside0.mk (Below.refl w.heap.size w)
 have H : (if a1 = 0 then (some (0, 10)) else (if a0 = (-9223372036854775808) then (num_DivDown.j0 k a0 a1 (a1 == (-1))) else (num_DivDown.j0 k a0 a1 false))) = some (r1, r2) := h
 clear h
 refine Or.elim (Classical.em (a1 = 0)) (fun c3 => ?p2_) (fun c3 => ?n2_)
 case' p2_ =>
  rw [if_pos c3] at H
  have c3b0 : (a1 == 0) = true := beq_iff_eq.mpr c3
  have c3b1 : (a1 != 0) = false := bne_eq_false_iff_eq.mpr c3
  clear c3
  simp only [Option.some.injEq, Prod.mk.injEq] at H
  obtain ⟨rfl, rfl⟩ := H
  have hm1_0 := Aside0.mk trivial
 case' n2_ =>
  rw [if_neg c3] at H
  have c3b0 : (a1 == 0) = false := beq_eq_false_iff_ne.mpr c3
  have c3b1 : (a1 != 0) = true := bne_iff_ne.mpr c3
  have HC4 := Aside0.mk H
  clear H
  have hm1_1 := Aside0.mk trivial
 all_goals
  go_enter Try.func16, Try.ntmps16
  first
   | clear hm1_0
     go_wp2
     go_ret2
     exact ⟨by first | rfl | (simp [errW_none, errW_some] <;> rfl) | (simp [*, errW_none, errW_some] <;> rfl), by repeat (first | (with_reducible first | exact HB.out | apply below_alloc | apply pw_below_drewN | apply below_drew1) | exact HB.out)⟩
   | clear hm1_1
     go_upto_region 3 with (fail)
     go_cut [10] (fun v10 wc => ∃ (kq : Nat) (x10_3 : Bool), v10 = .bool x10_3 ∧ Aside0 (num_DivDown.j0 kq a0 a1 x10_3 = some (r1, r2)) ∧ Aside0 (kq ≤ k) ∧ Aside0 (Below w.heap.size w wc))
     case first =>
      have H := HC4.out
      clear HC4
      refine Or.elim (Classical.em (a0 = (-9223372036854775808))) (fun c5 => ?p4_) (fun c5 => ?n4_)
      case' p4_ =>
       rw [if_pos c5] at H
       have c5b0 : (a0 == (-9223372036854775808)) = true := beq_iff_eq.mpr c5
       have c5b1 : (a0 != (-9223372036854775808)) = false := bne_eq_false_iff_eq.mpr c5
       clear c5
       (first | rw [c5b0] | (simp only [i64_w, i32_w]; rw [c5b0]) | skip)
      case' n4_ =>
       rw [if_neg c5] at H
       have c5b0 : (a0 == (-9223372036854775808)) = false := beq_eq_false_iff_ne.mpr c5
       have c5b1 : (a0 != (-9223372036854775808)) = true := bne_iff_ne.mpr c5
       (first | rw [c5b0] | (simp only [i64_w, i32_w]; rw [c5b0]) | skip)
      all_goals
       have H' := Aside0.mk H
       clear H
       go_wp2
       go_meet
       case rel => first | (exact ⟨_, ((a1 == (-1))), (by first | rfl | (simp; done) | (simp [*]; done)), H', ⟨by first | omega | exact Nat.le_refl _⟩, ⟨by repeat (first | (with_reducible first | exact HB.out | apply below_alloc | apply pw_below_drewN | apply below_drew1) | exact HB.out)⟩⟩) | (exact ⟨_, (false), (by first | rfl | (simp; done) | (simp [*]; done)), H', ⟨by first | omega | exact Nat.le_refl _⟩, ⟨by repeat (first | (with_reducible first | exact HB.out | apply below_alloc | apply pw_below_drewN | apply below_drew1) | exact HB.out)⟩⟩)
     case rest =>
      clear HC4
      (try clear c1); (try clear p2); (try clear c3); (try clear c3b0); (try clear c3b1); (try clear c5); (try clear c5b0); (try clear c5b1)
      obtain ⟨kq, x10_3, rfl, HA, HJ3, HB⟩ := hcut
      cases kq with
      | zero => exact absurd HA.out (by simp [num_DivDown.j0])
      | succ kj3 =>
       have H := HA.out
       clear HA
       simp only [num_DivDown.j0] at H
       refine Or.elim (Classical.em (x10_3 = true)) (fun c6 => ?p6_) (fun c6 => ?n6_)
       case' p6_ =>
        subst c6
        have H1 : (some (0, 2)) = some (r1, r2) := by rw [if_pos rfl] at H; exact H
        clear H
        have H := H1
        clear H1
        simp only [Option.some.injEq, Prod.mk.injEq] at H
        obtain ⟨rfl, rfl⟩ := H
       case' n6_ =>
        replace c6 := Bool.eq_false_iff.mpr c6
        subst c6
        have H1 : (if a1 = 0 then (none) else (if (Int.tmod a0 a1) = 0 then (some (wrap64 (Int.tdiv a0 a1), 0)) else (if ((decide (a0 < 0)) != (decide (a1 < 0))) = true then (some (wrap64 ((wrap64 (Int.tdiv a0 a1)) - 1), 0)) else (some (wrap64 (Int.tdiv a0 a1), 0))))) = some (r1, r2) := by rw [if_neg (show ¬ (false = true) by decide)] at H; exact H
        clear H
        have H := H1
        clear H1
        refine Or.elim (Classical.em (a1 = 0)) (fun c7 => ?p7_) (fun c7 => ?n7_)
        case' p7_ =>
         rw [if_pos c7] at H
         exact absurd H (by simp)
        case' n7_ =>
         rw [if_neg c7] at H
         have c7b0 : (a1 == 0) = false := beq_eq_false_iff_ne.mpr c7
         have c7b1 : (a1 != 0) = true := bne_iff_ne.mpr c7
         refine Or.elim (Classical.em ((Int.tmod a0 a1) = 0)) (fun c8 => ?p8_) (fun c8 => ?n8_)
         case' p8_ =>
          rw [if_pos c8] at H
          have c8b0 : ((Int.tmod a0 a1) == 0) = true := beq_iff_eq.mpr c8
          have c8b1 : ((Int.tmod a0 a1) != 0) = false := bne_eq_false_iff_eq.mpr c8
          clear c8
          simp only [Option.some.injEq, Prod.mk.injEq] at H
          obtain ⟨rfl, rfl⟩ := H
         case' n8_ =>
          rw [if_neg c8] at H
          have c8b0 : ((Int.tmod a0 a1) == 0) = false := beq_eq_false_iff_ne.mpr c8
          have c8b1 : ((Int.tmod a0 a1) != 0) = true := bne_iff_ne.mpr c8
          refine Or.elim (Classical.em (((decide (a0 < 0)) != (decide (a1 < 0))) = true)) (fun c9 => ?p9_) (fun c9 => ?n9_)
          case' p9_ =>
           rw [if_pos c9] at H
           have c9b0 : ((decide (a0 < 0)) != (decide (a1 < 0))) = true := c9
           (try (have c9b1 : decide ((decide (a0 < 0)) = (decide (a1 < 0))) = false := by simpa using c9))
           (try (have c9b2 : ((decide (a0 < 0)) == (decide (a1 < 0))) = false := by simpa using c9))
           (try (have c9b3 : ¬ ((decide (a0 < 0)) = (decide (a1 < 0))) := by simpa using c9))
           clear c9
           simp only [Option.some.injEq, Prod.mk.injEq] at H
           obtain ⟨rfl, rfl⟩ := H
          case' n9_ =>
           rw [if_neg c9] at H
           have c9b0 : ((decide (a0 < 0)) != (decide (a1 < 0))) = false := by simpa using c9
           (try (have c9b1 : decide ((decide (a0 < 0)) = (decide (a1 < 0))) = true := by simpa using c9))
           (try (have c9b2 : ((decide (a0 < 0)) == (decide (a1 < 0))) = true := by simpa using c9))
           clear c9
           simp only [Option.some.injEq, Prod.mk.injEq] at H
           obtain ⟨rfl, rfl⟩ := H
       all_goals
        go_wp2
        go_ret2
        exact ⟨by first | rfl | (simp [errW_none, errW_some] <;> rfl) | (simp [*, errW_none, errW_some] <;> rfl), by repeat (first | (with_reducible first | exact HB.out | apply below_alloc | apply pw_below_drewN | apply below_drew1) | exact HB.out)⟩

/-! ### num_DivUp: function 17 -/
def num_DivUp.f (k : Nat) (a0 : Int) (a1 : Int) : Option (Int × Int) := (num_DivDown.f k a0 a1).bind fun bt101 => (if bt101.2 = 0 then (if a1 = 0 then (none) else (if (Int.tmod a0 a1) = 0 then (some (bt101.1, bt101.2)) else (some (wrap64 (bt101.1 + 1), bt101.2)))) else (some (bt101.1, bt101.2)))
theorem num_DivUp.mono : ∀ a0 a1 k, LeO (num_DivUp.f k a0 a1) (num_DivUp.f (k + 1) a0 a1) := by
  intro a0 a1 k
  unfold num_DivUp.f
  repeat' first
      | (with_reducible exact num_DivDown.mono _ _ _)
      | (with_reducible exact LeO.refl _)
      | (with_reducible exact LeO.none _)
      | (with_reducible refine LeO.ite ?_ ?_)
      | (with_reducible refine LeO.bind ?_ (fun _ => ?_))
      | exact num_DivDown.mono _ _ _
      | exact LeO.none _
      | refine LeO.ite ?_ ?_
      | refine LeO.bind ?_ (fun _ => ?_)
set_option maxHeartbeats 8000000 in
set_option maxRecDepth 100000 in
theorem num_DivUp.calls (k : Nat) (a0 : Int) (a1 : Int) (r1 : Int) (r2 : Int) (w : World) (h : num_DivUp.f k a0 a1 = some (r1, r2)) :
    Calls Try.prog 17 #[.int .i64 a0, .int .i64 a1] w fun e w' => e = .returned (.tuple #[.int .i64 r1, .int .i64 r2]) ∧ Below w.heap.size w w' := by
 have HB := Aside0.mk (Below.refl w.heap.size w)
 have H : ((num_DivDown.f k a0 a1).bind fun bt101 => (if bt101.2 = 0 then (if a1 = 0 then (none) else (if (Int.tmod a0 a1) = 0 then (some (bt101.1, bt101.2)) else (some (wrap64 (bt101.1 + 1), bt101.2)))) else (some (bt101.1, bt101.2)))) = some (r1, r2) := h
 clear h
 replace H := Option.bind_eq_some_iff.mp H
 obtain ⟨⟨t101, t102⟩, A30, H⟩ := H
 replace H : (if t102 = 0 then (if a1 = 0 then (none) else (if (Int.tmod a0 a1) = 0 then (some (t101, t102)) else (some (wrap64 (t101 + 1), t102)))) else (some (t101, t102))) = some (r1, r2) := H
 have A3 := Aside0.mk A30
 clear A30
 refine Or.elim (Classical.em (t102 = 0)) (fun c4 => ?p2_) (fun c4 => ?n2_)
 case' p2_ =>
  rw [if_pos c4] at H
  have c4b0 : (t102 == 0) = true := beq_iff_eq.mpr c4
  have c4b1 : (t102 != 0) = false := bne_eq_false_iff_eq.mpr c4
  clear c4
  refine Or.elim (Classical.em (a1 = 0)) (fun c5 => ?p3_) (fun c5 => ?n3_)
  case' p3_ =>
   rw [if_pos c5] at H
   exact absurd H (by simp)
  case' n3_ =>
   rw [if_neg c5] at H
   have c5b0 : (a1 == 0) = false := beq_eq_false_iff_ne.mpr c5
   have c5b1 : (a1 != 0) = true := bne_iff_ne.mpr c5
   refine Or.elim (Classical.em ((Int.tmod a0 a1) = 0)) (fun c6 => ?p4_) (fun c6 => ?n4_)
   case' p4_ =>
    rw [if_pos c6] at H
    have c6b0 : ((Int.tmod a0 a1) == 0) = true := beq_iff_eq.mpr c6
    have c6b1 : ((Int.tmod a0 a1) != 0) = false := bne_eq_false_iff_eq.mpr c6
    clear c6
    simp only [Option.some.injEq, Prod.mk.injEq] at H
    obtain ⟨rfl, rfl⟩ := H
   case' n4_ =>
    rw [if_neg c6] at H
    have c6b0 : ((Int.tmod a0 a1) == 0) = false := beq_eq_false_iff_ne.mpr c6
    have c6b1 : ((Int.tmod a0 a1) != 0) = true := bne_iff_ne.mpr c6
    simp only [Option.some.injEq, Prod.mk.injEq] at H
    obtain ⟨rfl, rfl⟩ := H
 case' n2_ =>
  rw [if_neg c4] at H
  have c4b0 : (t102 == 0) = false := beq_eq_false_iff_ne.mpr c4
  have c4b1 : (t102 != 0) = true := bne_iff_ne.mpr c4
  simp only [Option.some.injEq, Prod.mk.injEq] at H
  obtain ⟨rfl, rfl⟩ := H
 all_goals
  go_enter Try.func17, Try.ntmps17
  go_wp2_with (first | ((with_reducible refine gate_callee (f := 16) rfl ?_); refine goesL_ (some 11) rfl rfl Try.func16 (by kernel_rfl) rfl #[.int .i64 a0, .int .i64 a1] rfl (by (try simp only [List.map_toArray, List.map_cons, List.map_nil]); first | done | rfl | (simp only [List.length_drop, List.length_take]; rfl)) ?_; (with_reducible refine (num_DivDown.calls k a0 a1 t101 t102 _ A3.out).mono ?_); rintro e wx9ae71 ⟨rfl, hb⟩; refine ⟨_, rfl, ?_⟩; have n0_ := Aside0.mk (below_step (by repeat (first | (with_reducible first | exact HB.out | apply below_alloc | apply pw_below_drewN | apply below_drew1) | exact HB.out)) hb); clear HB; have HB := n0_; clear n0_; (try clear hb); (try clear hb2); (try clear hk); (try clear hi)))
  go_ret2
  exact ⟨by first | rfl | (simp [errW_none, errW_some] <;> rfl) | (simp [*, errW_none, errW_some] <;> rfl), by repeat (first | (with_reducible first | exact HB.out | apply below_alloc | apply pw_below_drewN | apply below_drew1) | exact HB.out)⟩

/-! ### num_magnitude: function 44 -/
def num_magnitude.f (a0 : Int) : Option (Int) := if a0 < 0 then (some (IntKind.u64.wrap (-(IntKind.u64.wrap (a0))))) else (some (IntKind.u64.wrap (a0)))
set_option maxHeartbeats 8000000 in
set_option maxRecDepth 100000 in
theorem num_magnitude.calls (a0 : Int) (r : Int) (w : World) (h : num_magnitude.f a0 = some r) :
    Calls Try.prog 44 #[.int .i64 a0] w fun e w' => e = .returned (.int .u64 r) ∧ Below w.heap.size w w' := by
 have HB := Aside0.mk (Below.refl w.heap.size w)
 have H : (if a0 < 0 then (some (IntKind.u64.wrap (-(IntKind.u64.wrap (a0))))) else (some (IntKind.u64.wrap (a0)))) = some r := h
 clear h
 refine Or.elim (Classical.em (a0 < 0)) (fun c2 => ?p2_) (fun c2 => ?n2_)
 case' p2_ =>
  rw [if_pos c2] at H
  have c2b0 : decide (a0 < 0) = true := decide_eq_true c2
  clear c2
 case' n2_ =>
  rw [if_neg c2] at H
  have c2b0 : decide (a0 < 0) = false := decide_eq_false c2
  clear c2
 all_goals
  obtain rfl := Option.some.inj H
  go_enter Try.func44, Try.ntmps44
  go_wp2
  go_ret
  exact ⟨by first | rfl | (simp [errW_none, errW_some] <;> rfl) | (simp [*, errW_none, errW_some] <;> rfl), by repeat (first | (with_reducible first | exact HB.out | apply below_alloc | apply pw_below_drewN | apply below_drew1) | exact HB.out)⟩

/-! ### num_Gcd: function 18 -/
def num_Gcd.l0 : Nat → Int → Int → Option (Int)
  | 0, _, _ => none
  | k + 1, x5, x6 => if x6 > 0 then (if x6 = 0 then (none) else (num_Gcd.l0 k x6 (Int.tmod x5 x6))) else (some (wrap64 (x5)))
def num_Gcd.f (k : Nat) (a0 : Int) (a1 : Int) : Option (Int) := (num_magnitude.f a0).bind fun t103 => ((num_magnitude.f a1).bind fun t104 => (num_Gcd.l0 k t103 t104))
theorem num_Gcd.mono_l : ∀ k, (∀ y0 y1, LeO (num_Gcd.l0 k y0 y1) (num_Gcd.l0 (k + 1) y0 y1))
  | 0 => fun _ _ r h => by simp [num_Gcd.l0] at h
  | k + 1 => by
    have ih0 := num_Gcd.mono_l k
    · intro y0 y1
      unfold num_Gcd.l0
      repeat' first
      | (with_reducible exact ih0 _ _)
      | (with_reducible exact LeO.refl _)
      | (with_reducible exact LeO.none _)
      | (with_reducible refine LeO.ite ?_ ?_)
      | (with_reducible refine LeO.bind ?_ (fun _ => ?_))
      | exact ih0 _ _
      | exact LeO.none _
      | refine LeO.ite ?_ ?_
      | refine LeO.bind ?_ (fun _ => ?_)
theorem num_Gcd.mono : ∀ a0 a1 k, LeO (num_Gcd.f k a0 a1) (num_Gcd.f (k + 1) a0 a1) := by
  intro a0 a1 k
  have ih0 := num_Gcd.mono_l k
  unfold num_Gcd.f
  repeat' first
      | (with_reducible exact ih0 _ _)
      | (with_reducible exact LeO.refl _)
      | (with_reducible exact LeO.none _)
      | (with_reducible refine LeO.ite ?_ ?_)
      | (with_reducible refine LeO.bind ?_ (fun _ => ?_))
      | exact ih0 _ _
      | exact LeO.none _
      | refine LeO.ite ?_ ?_
      | refine LeO.bind ?_ (fun _ => ?_)
set_option maxHeartbeats 8000000 in
set_option maxRecDepth 100000 in
theorem num_Gcd.calls (k : Nat) (a0 : Int) (a1 : Int) (r : Int) (w : World) (h : num_Gcd.f k a0 a1 = some r) :
    Calls Try.prog 18 #[.int .i64 a0, .int .i64 a1] w fun e w' => e = .returned (.int .i64 r) ∧ Below w.heap.size w w' := by
 have HB := Aside0.mk (Below.refl w.heap.size w)
 have H : ((num_magnitude.f a0).bind fun t103 => ((num_magnitude.f a1).bind fun t104 => (num_Gcd.l0 k t103 t104))) = some r := h
 clear h
 replace H := Option.bind_eq_some_iff.mp H
 obtain ⟨t103, A30, H⟩ := H
 replace H : ((num_magnitude.f a1).bind fun t104 => (num_Gcd.l0 k t103 t104)) = some r := H
 have A3 := Aside0.mk A30
 clear A30
 replace H := Option.bind_eq_some_iff.mp H
 obtain ⟨t104, A40, H⟩ := H
 replace H : (num_Gcd.l0 k t103 t104) = some r := H
 have A4 := Aside0.mk A40
 clear A40
 have H' := Aside0.mk H
 clear H
 go_enter Try.func18, Try.ntmps18
 go_wp2_with (first | (go_at_call 44; (with_reducible refine (num_magnitude.calls a0 t103 _ A3.out).mono ?_); rintro e w5 ⟨rfl, hb⟩; have n0_ := Aside0.mk (below_step (by repeat (first | (with_reducible first | exact HB.out | apply below_alloc | apply pw_below_drewN | apply below_drew1) | exact HB.out)) hb); clear HB; have HB := n0_; clear n0_; (try clear hb); (try clear hb2); (try clear hk); (try clear hi)) | (go_at_call 44; (with_reducible refine (num_magnitude.calls a1 t104 _ A4.out).mono ?_); rintro e w6 ⟨rfl, hb⟩; have n0_ := Aside0.mk (below_step (by repeat (first | (with_reducible first | exact HB.out | apply below_alloc | apply pw_below_drewN | apply below_drew1) | exact HB.out)) hb); clear HB; have HB := n0_; clear n0_; (try clear hb); (try clear hb2); (try clear hk); (try clear hi)))
 repeat (go_quiet (first | (go_at_call 44; (with_reducible refine (num_magnitude.calls a0 t103 _ A3.out).mono ?_); rintro e w5 ⟨rfl, hb⟩; have n0_ := Aside0.mk (below_step (by repeat (first | (with_reducible first | exact HB.out | apply below_alloc | apply pw_below_drewN | apply below_drew1) | exact HB.out)) hb); clear HB; have HB := n0_; clear n0_; (try clear hb); (try clear hb2); (try clear hk); (try clear hi)) | (go_at_call 44; (with_reducible refine (num_magnitude.calls a1 t104 _ A4.out).mono ?_); rintro e w6 ⟨rfl, hb⟩; have n0_ := Aside0.mk (below_step (by repeat (first | (with_reducible first | exact HB.out | apply below_alloc | apply pw_below_drewN | apply below_drew1) | exact HB.out)) hb); clear HB; have HB := n0_; clear n0_; (try clear hb); (try clear hb2); (try clear hk); (try clear hi))); try go_wp2_with (first | (go_at_call 44; (with_reducible refine (num_magnitude.calls a0 t103 _ A3.out).mono ?_); rintro e w5 ⟨rfl, hb⟩; have n0_ := Aside0.mk (below_step (by repeat (first | (with_reducible first | exact HB.out | apply below_alloc | apply pw_below_drewN | apply below_drew1) | exact HB.out)) hb); clear HB; have HB := n0_; clear n0_; (try clear hb); (try clear hb2); (try clear hk); (try clear hi)) | (go_at_call 44; (with_reducible refine (num_magnitude.calls a1 t104 _ A4.out).mono ?_); rintro e w6 ⟨rfl, hb⟩; have n0_ := Aside0.mk (below_step (by repeat (first | (with_reducible first | exact HB.out | apply below_alloc | apply pw_below_drewN | apply below_drew1) | exact HB.out)) hb); clear HB; have HB := n0_; clear n0_; (try clear hb); (try clear hb2); (try clear hk); (try clear hi))))
 go_loopg [5, 6] k (fun kq v5 v6 w' => ∃ (x5_1 : Int) (x6_1 : Int), v5 = .int .u64 x5_1 ∧ v6 = .int .u64 x6_1 ∧ Aside0 (num_Gcd.l0 kq x5_1 x6_1 = some r) ∧ Aside0 (kq ≤ k) ∧ Aside0 (Below w.heap.size w w'))
 case atStart => exact ⟨(t103), (t104), (by first | rfl | (simp; done) | (simp [*]; done)), (by first | rfl | (simp; done) | (simp [*]; done)), H', ⟨Nat.le_refl _⟩, ⟨by repeat (first | (with_reducible first | exact HB.out | apply below_alloc | apply pw_below_drewN | apply below_drew1) | exact HB.out)⟩⟩
 case round =>
  clear H'
  (try clear c1); (try clear p2)
  obtain ⟨x5_1, x6_1, rfl, rfl, HA, HK1, HB⟩ := hrel
  cases gk with
  | zero => exact absurd HA.out (by simp [num_Gcd.l0])
  | succ k1 =>
   have H := HA.out
   clear HA
   simp only [num_Gcd.l0] at H
   by_cases c7 : x6_1 > 0
   · rw [if_pos c7] at H
     have c7b0 : decide (0 < x6_1) = true := decide_eq_true c7
     clear c7
     by_cases c8 : x6_1 = 0
     · rw [if_pos c8] at H
       exact absurd H (by simp)
     · rw [if_neg c8] at H
       have c8b0 : (x6_1 == 0) = false := beq_eq_false_iff_ne.mpr c8
       have c8b1 : (x6_1 != 0) = true := bne_iff_ne.mpr c8
       have H' := Aside0.mk H
       clear H
       go_wp2
       repeat (go_quiet (fail); try go_wp2)
       go_roundg k1
       case measure => have := HK1.out; omega
       case rel => exact ⟨(x6_1), (Int.tmod x5_1 x6_1), (by first | rfl | (simp; done) | (simp [*]; done)), (by first | rfl | (simp; done) | (simp [*]; done)), H', ⟨by have := HK1.out; omega⟩, ⟨by repeat (first | (with_reducible first | exact HB.out | apply below_alloc | apply pw_below_drewN | apply below_drew1) | exact HB.out)⟩⟩
   · rw [if_neg c7] at H
     have c7b0 : decide (0 < x6_1) = false := decide_eq_false c7
     clear c7
     obtain rfl := Option.some.inj H
     go_wp2
     repeat (go_quiet (fail); try go_wp2)
     go_ret
     exact ⟨by first | rfl | (simp [errW_none, errW_some] <;> rfl) | (simp [*, errW_none, errW_some] <;> rfl), by repeat (first | (with_reducible first | exact HB.out | apply below_alloc | apply pw_below_drewN | apply below_drew1) | exact HB.out)⟩

/-! ### num_Between: function 43 -/
def num_Between.f (a0 : Int) (a1 : Int) (a2 : Int) : Option (Int) := some (mx a1 (mn a0 a2))
set_option maxHeartbeats 8000000 in
set_option maxRecDepth 100000 in
theorem num_Between.calls (a0 : Int) (a1 : Int) (a2 : Int) (r : Int) (w : World) (h : num_Between.f a0 a1 a2 = some r) :
    Calls Try.prog 43 #[.int .i64 a0, .int .i64 a1, .int .i64 a2] w fun e w' => e = .returned (.int .i64 r) ∧ Below w.heap.size w w' := by
 have HB := Aside0.mk (Below.refl w.heap.size w)
 have H : (some (mx a1 (mn a0 a2))) = some r := h
 clear h
 obtain ⟨ji4, hji4⟩ : ∃ j_ : Int, (mn a0 a2) = j_ := ⟨_, rfl⟩
 replace H : (some (mx a1 (ji4))) = some r := by first | (rw [hji4] at H; exact H) | (simp only [hji4] at H ⊢; exact H)
 have hji4_ : (if a2 < a0 then a2 else a0) = ji4 := hji4
 obtain ⟨ji5, hji5⟩ : ∃ j_ : Int, (mx a1 (ji4)) = j_ := ⟨_, rfl⟩
 replace H : (some ji5) = some r := by first | (rw [hji5] at H; exact H) | (simp only [hji5] at H ⊢; exact H)
 have hji5_ : (if a1 < (ji4) then (ji4) else a1) = ji5 := hji5
 obtain rfl := Option.some.inj H
 go_enter Try.func43, Try.ntmps43
 go_wp2
 go_ret
 exact ⟨by first | rfl | (simp [errW_none, errW_some] <;> rfl) | (simp only [← hji4, ← hji5]; first | rfl | (simp [errW_none, errW_some] <;> rfl)) | (simp [*, errW_none, errW_some] <;> rfl), by repeat (first | (with_reducible first | exact HB.out | apply below_alloc | apply pw_below_drewN | apply below_drew1) | exact HB.out)⟩

/-! ### skywaykeep1_numWorks: function 15 -/
def skywaykeep1_numWorks.f (k : Nat)  : Option (Bool) := (num_DivDown.f k (-7) 2).bind fun bt105 => ((num_DivUp.f k (-7) 2).bind fun bt107 => (if bt105.2 = 0 then (if bt107.2 = 0 then (if bt105.1 = (-4) then (if bt107.1 = (-3) then ((num_Gcd.f k (-12) 18).bind fun t109 => (if t109 = 6 then ((num_Between.f 9 1 5).bind fun t110 => (some (t110 == 5))) else (some false))) else (some false)) else (some false)) else (some false)) else (some false)))
theorem skywaykeep1_numWorks.mono : ∀ k, LeO (skywaykeep1_numWorks.f k ) (skywaykeep1_numWorks.f (k + 1) ) := by
  intro  k
  unfold skywaykeep1_numWorks.f
  repeat' first
      | (with_reducible exact num_DivDown.mono _ _ _)
      | (with_reducible exact num_DivUp.mono _ _ _)
      | (with_reducible exact num_Gcd.mono _ _ _)
      | (with_reducible exact LeO.refl _)
      | (with_reducible exact LeO.none _)
      | (with_reducible refine LeO.ite ?_ ?_)
      | (with_reducible refine LeO.bind ?_ (fun _ => ?_))
      | exact num_DivDown.mono _ _ _
      | exact num_DivUp.mono _ _ _
      | exact num_Gcd.mono _ _ _
      | exact LeO.none _
      | refine LeO.ite ?_ ?_
      | refine LeO.bind ?_ (fun _ => ?_)
set_option maxHeartbeats 8000000 in
set_option maxRecDepth 100000 in
theorem skywaykeep1_numWorks.calls (k : Nat)  (r : Bool) (w : World) (h : skywaykeep1_numWorks.f k  = some r) :
    Calls Try.prog 15 #[] w fun e w' => e = .returned (.bool r) ∧ Below w.heap.size w w' := by
 have HB := Aside0.mk (Below.refl w.heap.size w)
 have H : ((num_DivDown.f k (-7) 2).bind fun bt105 => ((num_DivUp.f k (-7) 2).bind fun bt107 => (if bt105.2 = 0 then (if bt107.2 = 0 then (if bt105.1 = (-4) then (if bt107.1 = (-3) then ((num_Gcd.f k (-12) 18).bind fun t109 => (if t109 = 6 then ((num_Between.f 9 1 5).bind fun t110 => (some (t110 == 5))) else (some false))) else (some false)) else (some false)) else (some false)) else (some false)))) = some r := h
 clear h
 replace H := Option.bind_eq_some_iff.mp H
 obtain ⟨⟨t105, t106⟩, A10, H⟩ := H
 replace H : ((num_DivUp.f k (-7) 2).bind fun bt107 => (if t106 = 0 then (if bt107.2 = 0 then (if t105 = (-4) then (if bt107.1 = (-3) then ((num_Gcd.f k (-12) 18).bind fun t109 => (if t109 = 6 then ((num_Between.f 9 1 5).bind fun t110 => (some (t110 == 5))) else (some false))) else (some false)) else (some false)) else (some false)) else (some false))) = some r := H
 have A1 := Aside0.mk A10
 clear A10
 replace H := Option.bind_eq_some_iff.mp H
 obtain ⟨⟨t107, t108⟩, A20, H⟩ := H
 replace H : (if t106 = 0 then (if t108 = 0 then (if t105 = (-4) then (if t107 = (-3) then ((num_Gcd.f k (-12) 18).bind fun t109 => (if t109 = 6 then ((num_Between.f 9 1 5).bind fun t110 => (some (t110 == 5))) else (some false))) else (some false)) else (some false)) else (some false)) else (some false)) = some r := H
 have A2 := Aside0.mk A20
 clear A20
 refine Or.elim (Classical.em (t106 = 0)) (fun c3 => ?p2_) (fun c3 => ?n2_)
 case' p2_ =>
  rw [if_pos c3] at H
  have c3b0 : (t106 == 0) = true := beq_iff_eq.mpr c3
  have c3b1 : (t106 != 0) = false := bne_eq_false_iff_eq.mpr c3
  clear c3
  refine Or.elim (Classical.em (t108 = 0)) (fun c4 => ?p3_) (fun c4 => ?n3_)
  case' p3_ =>
   rw [if_pos c4] at H
   have c4b0 : (t108 == 0) = true := beq_iff_eq.mpr c4
   have c4b1 : (t108 != 0) = false := bne_eq_false_iff_eq.mpr c4
   clear c4
   refine Or.elim (Classical.em (t105 = (-4))) (fun c5 => ?p4_) (fun c5 => ?n4_)
   case' p4_ =>
    rw [if_pos c5] at H
    have c5b0 : (t105 == (-4)) = true := beq_iff_eq.mpr c5
    have c5b1 : (t105 != (-4)) = false := bne_eq_false_iff_eq.mpr c5
    clear c5
    refine Or.elim (Classical.em (t107 = (-3))) (fun c6 => ?p5_) (fun c6 => ?n5_)
    case' p5_ =>
     rw [if_pos c6] at H
     have c6b0 : (t107 == (-3)) = true := beq_iff_eq.mpr c6
     have c6b1 : (t107 != (-3)) = false := bne_eq_false_iff_eq.mpr c6
     clear c6
     replace H := Option.bind_eq_some_iff.mp H
     obtain ⟨t109, A70, H⟩ := H
     replace H : (if t109 = 6 then ((num_Between.f 9 1 5).bind fun t110 => (some (t110 == 5))) else (some false)) = some r := H
     have A7 := Aside0.mk A70
     clear A70
     refine Or.elim (Classical.em (t109 = 6)) (fun c8 => ?p6_) (fun c8 => ?n6_)
     case' p6_ =>
      rw [if_pos c8] at H
      have c8b0 : (t109 == 6) = true := beq_iff_eq.mpr c8
      have c8b1 : (t109 != 6) = false := bne_eq_false_iff_eq.mpr c8
      clear c8
      replace H := Option.bind_eq_some_iff.mp H
      obtain ⟨t110, A90, H⟩ := H
      replace H : (some (t110 == 5)) = some r := H
      have A9 := Aside0.mk A90
      clear A90
     case' n6_ =>
      rw [if_neg c8] at H
      have c8b0 : (t109 == 6) = false := beq_eq_false_iff_ne.mpr c8
      have c8b1 : (t109 != 6) = true := bne_iff_ne.mpr c8
    case' n5_ =>
     rw [if_neg c6] at H
     have c6b0 : (t107 == (-3)) = false := beq_eq_false_iff_ne.mpr c6
     have c6b1 : (t107 != (-3)) = true := bne_iff_ne.mpr c6
   case' n4_ =>
    rw [if_neg c5] at H
    have c5b0 : (t105 == (-4)) = false := beq_eq_false_iff_ne.mpr c5
    have c5b1 : (t105 != (-4)) = true := bne_iff_ne.mpr c5
  case' n3_ =>
   rw [if_neg c4] at H
   have c4b0 : (t108 == 0) = false := beq_eq_false_iff_ne.mpr c4
   have c4b1 : (t108 != 0) = true := bne_iff_ne.mpr c4
 case' n2_ =>
  rw [if_neg c3] at H
  have c3b0 : (t106 == 0) = false := beq_eq_false_iff_ne.mpr c3
  have c3b1 : (t106 != 0) = true := bne_iff_ne.mpr c3
 all_goals
  obtain rfl := Option.some.inj H
  go_enter Try.func15, Try.ntmps15
  go_wp2_with (first | ((with_reducible refine gate_callee (f := 16) rfl ?_); refine goesL_ (some 6) rfl rfl Try.func16 (by kernel_rfl) rfl #[.int .i64 (-7), .int .i64 2] rfl (by (try simp only [List.map_toArray, List.map_cons, List.map_nil]); first | done | rfl | (simp only [List.length_drop, List.length_take]; rfl)) ?_; (with_reducible refine (num_DivDown.calls k (-7) 2 t105 t106 _ A1.out).mono ?_); rintro e wxe55c1 ⟨rfl, hb⟩; refine ⟨_, rfl, ?_⟩; have n0_ := Aside0.mk (below_step (by repeat (first | (with_reducible first | exact HB.out | apply below_alloc | apply pw_below_drewN | apply below_drew1) | exact HB.out)) hb); clear HB; have HB := n0_; clear n0_; (try clear hb); (try clear hb2); (try clear hk); (try clear hi)) | ((with_reducible refine gate_callee (f := 17) rfl ?_); refine goesL_ (some 10) rfl rfl Try.func17 (by kernel_rfl) rfl #[.int .i64 (-7), .int .i64 2] rfl (by (try simp only [List.map_toArray, List.map_cons, List.map_nil]); first | done | rfl | (simp only [List.length_drop, List.length_take]; rfl)) ?_; (with_reducible refine (num_DivUp.calls k (-7) 2 t107 t108 _ A2.out).mono ?_); rintro e wx755d1 ⟨rfl, hb⟩; refine ⟨_, rfl, ?_⟩; have n0_ := Aside0.mk (below_step (by repeat (first | (with_reducible first | exact HB.out | apply below_alloc | apply pw_below_drewN | apply below_drew1) | exact HB.out)) hb); clear HB; have HB := n0_; clear n0_; (try clear hb); (try clear hb2); (try clear hk); (try clear hi)) | (go_at_call 18; (with_reducible refine (num_Gcd.calls k (-12) 18 t109 _ A7.out).mono ?_); rintro e wx7aff1 ⟨rfl, hb⟩; have n0_ := Aside0.mk (below_step (by repeat (first | (with_reducible first | exact HB.out | apply below_alloc | apply pw_below_drewN | apply below_drew1) | exact HB.out)) hb); clear HB; have HB := n0_; clear n0_; (try clear hb); (try clear hb2); (try clear hk); (try clear hi)) | (go_at_call 43; (with_reducible refine (num_Between.calls 9 1 5 t110 _ A9.out).mono ?_); rintro e wxfbf71 ⟨rfl, hb⟩; have n0_ := Aside0.mk (below_step (by repeat (first | (with_reducible first | exact HB.out | apply below_alloc | apply pw_below_drewN | apply below_drew1) | exact HB.out)) hb); clear HB; have HB := n0_; clear n0_; (try clear hb); (try clear hb2); (try clear hk); (try clear hi)))
  go_ret
  exact ⟨by first | rfl | (simp [errW_none, errW_some] <;> rfl) | (simp [*, errW_none, errW_some] <;> rfl), by repeat (first | (with_reducible first | exact HB.out | apply below_alloc | apply pw_below_drewN | apply below_drew1) | exact HB.out)⟩

/-! ### skywaykeep1_NumDivides: function 4 -/
def skywaykeep1_NumDivides.f (k : Nat) (a0 : Int) (a1 : Int) : Option (Bool) := (skywaykeep1_numWorks.f k).bind fun t111 => (if t111 = true then ((num_Gcd.f k a0 a1).bind fun t112 => ((num_Gcd.f k a1 a0).bind fun t113 => (if t112 = t113 then (if t112 ≤ 0 then (if t112 = 0 then (if a0 = 0 then (if a1 = 0 then (some true) else (some (t112 == (-9223372036854775808)))) else (some (t112 == (-9223372036854775808)))) else (some (t112 == (-9223372036854775808)))) else ((num_DivDown.f k a0 t112).bind fun bt114 => ((num_DivUp.f k a1 t112).bind fun bt116 => (if bt114.2 = 0 then (if bt116.2 = 0 then (if (wrap64 (bt114.1 * t112)) = a0 then (if (wrap64 (bt116.1 * t112)) = a1 then ((num_Gcd.f k bt114.1 bt116.1).bind fun t118 => (some (t118 == 1))) else (some false)) else (some false)) else (some false)) else (some false))))) else (some false)))) else (some false))
theorem skywaykeep1_NumDivides.mono : ∀ a0 a1 k, LeO (skywaykeep1_NumDivides.f k a0 a1) (skywaykeep1_NumDivides.f (k + 1) a0 a1) := by
  intro a0 a1 k
  unfold skywaykeep1_NumDivides.f
  repeat' first
      | (with_reducible exact num_DivDown.mono _ _ _)
      | (with_reducible exact num_DivUp.mono _ _ _)
      | (with_reducible exact num_Gcd.mono _ _ _)
      | (with_reducible exact skywaykeep1_numWorks.mono _)
      | (with_reducible exact LeO.refl _)
      | (with_reducible exact LeO.none _)
      | (with_reducible refine LeO.ite ?_ ?_)
      | (with_reducible refine LeO.bind ?_ (fun _ => ?_))
      | exact num_DivDown.mono _ _ _
      | exact num_DivUp.mono _ _ _
      | exact num_Gcd.mono _ _ _
      | exact skywaykeep1_numWorks.mono _
      | exact LeO.none _
      | refine LeO.ite ?_ ?_
      | refine LeO.bind ?_ (fun _ => ?_)
set_option maxHeartbeats 8000000 in
set_option maxRecDepth 100000 in
theorem skywaykeep1_NumDivides.calls (k : Nat) (a0 : Int) (a1 : Int) (r : Bool) (w : World) (h : skywaykeep1_NumDivides.f k a0 a1 = some r) :
    Calls Try.prog 4 #[.int .i64 a0, .int .i64 a1] w fun e w' => e = .returned (.bool r) ∧ Below w.heap.size w w' := by
 have HB := Aside0.mk (Below.refl w.heap.size w)
 have H : ((skywaykeep1_numWorks.f k).bind fun t111 => (if t111 = true then ((num_Gcd.f k a0 a1).bind fun t112 => ((num_Gcd.f k a1 a0).bind fun t113 => (if t112 = t113 then (if t112 ≤ 0 then (if t112 = 0 then (if a0 = 0 then (if a1 = 0 then (some true) else (some (t112 == (-9223372036854775808)))) else (some (t112 == (-9223372036854775808)))) else (some (t112 == (-9223372036854775808)))) else ((num_DivDown.f k a0 t112).bind fun bt114 => ((num_DivUp.f k a1 t112).bind fun bt116 => (if bt114.2 = 0 then (if bt116.2 = 0 then (if (wrap64 (bt114.1 * t112)) = a0 then (if (wrap64 (bt116.1 * t112)) = a1 then ((num_Gcd.f k bt114.1 bt116.1).bind fun t118 => (some (t118 == 1))) else (some false)) else (some false)) else (some false)) else (some false))))) else (some false)))) else (some false))) = some r := h
 clear h
 replace H := Option.bind_eq_some_iff.mp H
 obtain ⟨t111, A30, H⟩ := H
 replace H : (if t111 = true then ((num_Gcd.f k a0 a1).bind fun t112 => ((num_Gcd.f k a1 a0).bind fun t113 => (if t112 = t113 then (if t112 ≤ 0 then (if t112 = 0 then (if a0 = 0 then (if a1 = 0 then (some true) else (some (t112 == (-9223372036854775808)))) else (some (t112 == (-9223372036854775808)))) else (some (t112 == (-9223372036854775808)))) else ((num_DivDown.f k a0 t112).bind fun bt114 => ((num_DivUp.f k a1 t112).bind fun bt116 => (if bt114.2 = 0 then (if bt116.2 = 0 then (if (wrap64 (bt114.1 * t112)) = a0 then (if (wrap64 (bt116.1 * t112)) = a1 then ((num_Gcd.f k bt114.1 bt116.1).bind fun t118 => (some (t118 == 1))) else (some false)) else (some false)) else (some false)) else (some false))))) else (some false)))) else (some false)) = some r := H
 have A3 := Aside0.mk A30
 clear A30
 refine Or.elim (Classical.em (t111 = true)) (fun c4 => ?p2_) (fun c4 => ?n2_)
 case' p2_ =>
  subst c4
  have H1 : ((num_Gcd.f k a0 a1).bind fun t112 => ((num_Gcd.f k a1 a0).bind fun t113 => (if t112 = t113 then (if t112 ≤ 0 then (if t112 = 0 then (if a0 = 0 then (if a1 = 0 then (some true) else (some (t112 == (-9223372036854775808)))) else (some (t112 == (-9223372036854775808)))) else (some (t112 == (-9223372036854775808)))) else ((num_DivDown.f k a0 t112).bind fun bt114 => ((num_DivUp.f k a1 t112).bind fun bt116 => (if bt114.2 = 0 then (if bt116.2 = 0 then (if (wrap64 (bt114.1 * t112)) = a0 then (if (wrap64 (bt116.1 * t112)) = a1 then ((num_Gcd.f k bt114.1 bt116.1).bind fun t118 => (some (t118 == 1))) else (some false)) else (some false)) else (some false)) else (some false))))) else (some false)))) = some r := by rw [if_pos rfl] at H; exact H
  clear H
  have H := H1
  clear H1
  replace H := Option.bind_eq_some_iff.mp H
  obtain ⟨t112, A50, H⟩ := H
  replace H : ((num_Gcd.f k a1 a0).bind fun t113 => (if t112 = t113 then (if t112 ≤ 0 then (if t112 = 0 then (if a0 = 0 then (if a1 = 0 then (some true) else (some (t112 == (-9223372036854775808)))) else (some (t112 == (-9223372036854775808)))) else (some (t112 == (-9223372036854775808)))) else ((num_DivDown.f k a0 t112).bind fun bt114 => ((num_DivUp.f k a1 t112).bind fun bt116 => (if bt114.2 = 0 then (if bt116.2 = 0 then (if (wrap64 (bt114.1 * t112)) = a0 then (if (wrap64 (bt116.1 * t112)) = a1 then ((num_Gcd.f k bt114.1 bt116.1).bind fun t118 => (some (t118 == 1))) else (some false)) else (some false)) else (some false)) else (some false))))) else (some false))) = some r := H
  have A5 := Aside0.mk A50
  clear A50
  replace H := Option.bind_eq_some_iff.mp H
  obtain ⟨t113, A60, H⟩ := H
  replace H : (if t112 = t113 then (if t112 ≤ 0 then (if t112 = 0 then (if a0 = 0 then (if a1 = 0 then (some true) else (some (t112 == (-9223372036854775808)))) else (some (t112 == (-9223372036854775808)))) else (some (t112 == (-9223372036854775808)))) else ((num_DivDown.f k a0 t112).bind fun bt114 => ((num_DivUp.f k a1 t112).bind fun bt116 => (if bt114.2 = 0 then (if bt116.2 = 0 then (if (wrap64 (bt114.1 * t112)) = a0 then (if (wrap64 (bt116.1 * t112)) = a1 then ((num_Gcd.f k bt114.1 bt116.1).bind fun t118 => (some (t118 == 1))) else (some false)) else (some false)) else (some false)) else (some false))))) else (some false)) = some r := H
  have A6 := Aside0.mk A60
  clear A60
  refine Or.elim (Classical.em (t112 = t113)) (fun c7 => ?p3_) (fun c7 => ?n3_)
  case' p3_ =>
   rw [if_pos c7] at H
   have c7b0 : (t112 == t113) = true := beq_iff_eq.mpr c7
   have c7b1 : (t112 != t113) = false := bne_eq_false_iff_eq.mpr c7
   clear c7
   refine Or.elim (Classical.em (t112 ≤ 0)) (fun c8 => ?p4_) (fun c8 => ?n4_)
   case' p4_ =>
    rw [if_pos c8] at H
    have c8b0 : decide (t112 ≤ 0) = true := decide_eq_true c8
    clear c8
    refine Or.elim (Classical.em (t112 = 0)) (fun c9 => ?p5_) (fun c9 => ?n5_)
    case' p5_ =>
     rw [if_pos c9] at H
     have c9b0 : (t112 == 0) = true := beq_iff_eq.mpr c9
     have c9b1 : (t112 != 0) = false := bne_eq_false_iff_eq.mpr c9
     clear c9
     refine Or.elim (Classical.em (a0 = 0)) (fun c10 => ?p6_) (fun c10 => ?n6_)
     case' p6_ =>
      rw [if_pos c10] at H
      have c10b0 : (a0 == 0) = true := beq_iff_eq.mpr c10
      have c10b1 : (a0 != 0) = false := bne_eq_false_iff_eq.mpr c10
      clear c10
      refine Or.elim (Classical.em (a1 = 0)) (fun c11 => ?p7_) (fun c11 => ?n7_)
      case' p7_ =>
       rw [if_pos c11] at H
       have c11b0 : (a1 == 0) = true := beq_iff_eq.mpr c11
       have c11b1 : (a1 != 0) = false := bne_eq_false_iff_eq.mpr c11
       clear c11
      case' n7_ =>
       rw [if_neg c11] at H
       have c11b0 : (a1 == 0) = false := beq_eq_false_iff_ne.mpr c11
       have c11b1 : (a1 != 0) = true := bne_iff_ne.mpr c11
     case' n6_ =>
      rw [if_neg c10] at H
      have c10b0 : (a0 == 0) = false := beq_eq_false_iff_ne.mpr c10
      have c10b1 : (a0 != 0) = true := bne_iff_ne.mpr c10
    case' n5_ =>
     rw [if_neg c9] at H
     have c9b0 : (t112 == 0) = false := beq_eq_false_iff_ne.mpr c9
     have c9b1 : (t112 != 0) = true := bne_iff_ne.mpr c9
   case' n4_ =>
    rw [if_neg c8] at H
    have c8b0 : decide (t112 ≤ 0) = false := decide_eq_false c8
    clear c8
    replace H := Option.bind_eq_some_iff.mp H
    obtain ⟨⟨t114, t115⟩, A240, H⟩ := H
    replace H : ((num_DivUp.f k a1 t112).bind fun bt116 => (if t115 = 0 then (if bt116.2 = 0 then (if (wrap64 (t114 * t112)) = a0 then (if (wrap64 (bt116.1 * t112)) = a1 then ((num_Gcd.f k t114 bt116.1).bind fun t118 => (some (t118 == 1))) else (some false)) else (some false)) else (some false)) else (some false))) = some r := H
    have A24 := Aside0.mk A240
    clear A240
    replace H := Option.bind_eq_some_iff.mp H
    obtain ⟨⟨t116, t117⟩, A250, H⟩ := H
    replace H : (if t115 = 0 then (if t117 = 0 then (if (wrap64 (t114 * t112)) = a0 then (if (wrap64 (t116 * t112)) = a1 then ((num_Gcd.f k t114 t116).bind fun t118 => (some (t118 == 1))) else (some false)) else (some false)) else (some false)) else (some false)) = some r := H
    have A25 := Aside0.mk A250
    clear A250
    refine Or.elim (Classical.em (t115 = 0)) (fun c26 => ?p8_) (fun c26 => ?n8_)
    case' p8_ =>
     rw [if_pos c26] at H
     have c26b0 : (t115 == 0) = true := beq_iff_eq.mpr c26
     have c26b1 : (t115 != 0) = false := bne_eq_false_iff_eq.mpr c26
     clear c26
     refine Or.elim (Classical.em (t117 = 0)) (fun c27 => ?p9_) (fun c27 => ?n9_)
     case' p9_ =>
      rw [if_pos c27] at H
      have c27b0 : (t117 == 0) = true := beq_iff_eq.mpr c27
      have c27b1 : (t117 != 0) = false := bne_eq_false_iff_eq.mpr c27
      clear c27
      refine Or.elim (Classical.em ((wrap64 (t114 * t112)) = a0)) (fun c28 => ?p10_) (fun c28 => ?n10_)
      case' p10_ =>
       rw [if_pos c28] at H
       have c28b0 : ((wrap64 (t114 * t112)) == a0) = true := beq_iff_eq.mpr c28
       have c28b1 : ((wrap64 (t114 * t112)) != a0) = false := bne_eq_false_iff_eq.mpr c28
       clear c28
       refine Or.elim (Classical.em ((wrap64 (t116 * t112)) = a1)) (fun c29 => ?p11_) (fun c29 => ?n11_)
       case' p11_ =>
        rw [if_pos c29] at H
        have c29b0 : ((wrap64 (t116 * t112)) == a1) = true := beq_iff_eq.mpr c29
        have c29b1 : ((wrap64 (t116 * t112)) != a1) = false := bne_eq_false_iff_eq.mpr c29
        clear c29
        replace H := Option.bind_eq_some_iff.mp H
        obtain ⟨t118, A300, H⟩ := H
        replace H : (some (t118 == 1)) = some r := H
        have A30 := Aside0.mk A300
        clear A300
       case' n11_ =>
        rw [if_neg c29] at H
        have c29b0 : ((wrap64 (t116 * t112)) == a1) = false := beq_eq_false_iff_ne.mpr c29
        have c29b1 : ((wrap64 (t116 * t112)) != a1) = true := bne_iff_ne.mpr c29
      case' n10_ =>
       rw [if_neg c28] at H
       have c28b0 : ((wrap64 (t114 * t112)) == a0) = false := beq_eq_false_iff_ne.mpr c28
       have c28b1 : ((wrap64 (t114 * t112)) != a0) = true := bne_iff_ne.mpr c28
     case' n9_ =>
      rw [if_neg c27] at H
      have c27b0 : (t117 == 0) = false := beq_eq_false_iff_ne.mpr c27
      have c27b1 : (t117 != 0) = true := bne_iff_ne.mpr c27
    case' n8_ =>
     rw [if_neg c26] at H
     have c26b0 : (t115 == 0) = false := beq_eq_false_iff_ne.mpr c26
     have c26b1 : (t115 != 0) = true := bne_iff_ne.mpr c26
  case' n3_ =>
   rw [if_neg c7] at H
   have c7b0 : (t112 == t113) = false := beq_eq_false_iff_ne.mpr c7
   have c7b1 : (t112 != t113) = true := bne_iff_ne.mpr c7
 case' n2_ =>
  replace c4 := Bool.eq_false_iff.mpr c4
  subst c4
  have H1 : (some false) = some r := by rw [if_neg (show ¬ (false = true) by decide)] at H; exact H
  clear H
  have H := H1
  clear H1
 all_goals
  obtain rfl := Option.some.inj H
  go_enter Try.func4, Try.ntmps4
  go_wp2_with (first | ((with_reducible refine gate_callee (f := 15) rfl ?_); refine goesL_ (some 10) rfl rfl Try.func15 (by kernel_rfl) rfl #[] rfl (by (try simp only [List.map_toArray, List.map_cons, List.map_nil]); first | done | rfl | (simp only [List.length_drop, List.length_take]; rfl)) ?_; (with_reducible refine (skywaykeep1_numWorks.calls k  true _ A3.out).mono ?_); rintro e wx63d31 ⟨rfl, hb⟩; refine ⟨_, rfl, ?_⟩; have n0_ := Aside0.mk (below_step (by repeat (first | (with_reducible first | exact HB.out | apply below_alloc | apply pw_below_drewN | apply below_drew1) | exact HB.out)) hb); clear HB; have HB := n0_; clear n0_; (try clear hb); (try clear hb2); (try clear hk); (try clear hi)) | ((with_reducible refine gate_callee (f := 18) rfl ?_); refine goesL_ (some 14) rfl rfl Try.func18 (by kernel_rfl) rfl #[.int .i64 a0, .int .i64 a1] rfl (by (try simp only [List.map_toArray, List.map_cons, List.map_nil]); first | done | rfl | (simp only [List.length_drop, List.length_take]; rfl)) ?_; (with_reducible refine (num_Gcd.calls k a0 a1 t112 _ A5.out).mono ?_); rintro e wx73c81 ⟨rfl, hb⟩; refine ⟨_, rfl, ?_⟩; have n0_ := Aside0.mk (below_step (by repeat (first | (with_reducible first | exact HB.out | apply below_alloc | apply pw_below_drewN | apply below_drew1) | exact HB.out)) hb); clear HB; have HB := n0_; clear n0_; (try clear hb); (try clear hb2); (try clear hk); (try clear hi)) | ((with_reducible refine gate_callee (f := 18) rfl ?_); refine goesL_ (some 18) rfl rfl Try.func18 (by kernel_rfl) rfl #[.int .i64 a1, .int .i64 a0] rfl (by (try simp only [List.map_toArray, List.map_cons, List.map_nil]); first | done | rfl | (simp only [List.length_drop, List.length_take]; rfl)) ?_; (with_reducible refine (num_Gcd.calls k a1 a0 t113 _ A6.out).mono ?_); rintro e wxaa071 ⟨rfl, hb⟩; refine ⟨_, rfl, ?_⟩; have n0_ := Aside0.mk (below_step (by repeat (first | (with_reducible first | exact HB.out | apply below_alloc | apply pw_below_drewN | apply below_drew1) | exact HB.out)) hb); clear HB; have HB := n0_; clear n0_; (try clear hb); (try clear hb2); (try clear hk); (try clear hi)) | ((with_reducible refine gate_callee (f := 16) rfl ?_); refine goesL_ (some 39) rfl rfl Try.func16 (by kernel_rfl) rfl #[.int .i64 a0, .int .i64 t112] rfl (by (try simp only [List.map_toArray, List.map_cons, List.map_nil]); first | done | rfl | (simp only [List.length_drop, List.length_take]; rfl)) ?_; (with_reducible refine (num_DivDown.calls k a0 t112 t114 t115 _ A24.out).mono ?_); rintro e wx90b91 ⟨rfl, hb⟩; refine ⟨_, rfl, ?_⟩; have n0_ := Aside0.mk (below_step (by repeat (first | (with_reducible first | exact HB.out | apply below_alloc | apply pw_below_drewN | apply below_drew1) | exact HB.out)) hb); clear HB; have HB := n0_; clear n0_; (try clear hb); (try clear hb2); (try clear hk); (try clear hi)) | ((with_reducible refine gate_callee (f := 17) rfl ?_); refine goesL_ (some 45) rfl rfl Try.func17 (by kernel_rfl) rfl #[.int .i64 a1, .int .i64 t112] rfl (by (try simp only [List.map_toArray, List.map_cons, List.map_nil]); first | done | rfl | (simp only [List.length_drop, List.length_take]; rfl)) ?_; (with_reducible refine (num_DivUp.calls k a1 t112 t116 t117 _ A25.out).mono ?_); rintro e wxb1f81 ⟨rfl, hb⟩; refine ⟨_, rfl, ?_⟩; have n0_ := Aside0.mk (below_step (by repeat (first | (with_reducible first | exact HB.out | apply below_alloc | apply pw_below_drewN | apply below_drew1) | exact HB.out)) hb); clear HB; have HB := n0_; clear n0_; (try clear hb); (try clear hb2); (try clear hk); (try clear hi)) | (go_at_call 18; (with_reducible refine (num_Gcd.calls k t114 t116 t118 _ A30.out).mono ?_); rintro e wx9a281 ⟨rfl, hb⟩; have n0_ := Aside0.mk (below_step (by repeat (first | (with_reducible first | exact HB.out | apply below_alloc | apply pw_below_drewN | apply below_drew1) | exact HB.out)) hb); clear HB; have HB := n0_; clear n0_; (try clear hb); (try clear hb2); (try clear hk); (try clear hi)) | ((with_reducible refine gate_callee (f := 15) rfl ?_); refine goesL_ (some 10) rfl rfl Try.func15 (by kernel_rfl) rfl #[] rfl (by (try simp only [List.map_toArray, List.map_cons, List.map_nil]); first | done | rfl | (simp only [List.length_drop, List.length_take]; rfl)) ?_; (with_reducible refine (skywaykeep1_numWorks.calls k  false _ A3.out).mono ?_); rintro e wx34791 ⟨rfl, hb⟩; refine ⟨_, rfl, ?_⟩; have n0_ := Aside0.mk (below_step (by repeat (first | (with_reducible first | exact HB.out | apply below_alloc | apply pw_below_drewN | apply below_drew1) | exact HB.out)) hb); clear HB; have HB := n0_; clear n0_; (try clear hb); (try clear hb2); (try clear hk); (try clear hi)))
  go_ret
  exact ⟨by first | rfl | (simp [errW_none, errW_some] <;> rfl) | (simp [*, errW_none, errW_some] <;> rfl), by repeat (first | (with_reducible first | exact HB.out | apply below_alloc | apply pw_below_drewN | apply below_drew1) | exact HB.out)⟩

/-- THE ONE PURE STATEMENT of skywaykeep1_NumDivides. -/
def skywaykeep1_NumDivides.Pure : Prop := ∀ (a0 : Int) (a1 : Int), ((Lit.int .i64 a0).wf = true) → ((Lit.int .i64 a1).wf = true) → ∃ k, skywaykeep1_NumDivides.f k a0 a1 = some true

end Go.Proofs.Ytaahnfajcbkknaa.PNumDivides
