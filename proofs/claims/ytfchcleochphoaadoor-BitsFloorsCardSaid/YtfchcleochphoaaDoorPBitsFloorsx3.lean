/- Made by a program of this session (wip/tools/myprint.py, over the kit's printer): that the Go functions answer as the Lean functions printed beside them. -/
import Derived.Test.YtfchcleochphoaaDoorPBitsFloorsx0
import Derived.Test.YtfchcleochphoaaDoorPBitsFloorsx1
import Derived.Test.YtfchcleochphoaaDoorPBitsFloorsx2
namespace Go.Proofs.YtfchcleochphoaaDoor.PBitsFloors
open Go.RowKit Go.Proofs.YtfchcleochphoaaDoorW.PrintWords Go.Proofs.YtfchcleochphoaaDoorW.PrintLast Go.Proofs.YtfchcleochphoaaDoorW.PrintMore
attribute [local go_sem] max2_int min2_int max_two min_two max_three min_three max_four min_four   -- for this text's walks alone
set_option linter.unusedVariables false
set_option linter.unusedSimpArgs false

/-! ### bits_ToFixed: function 16 -/
mutual
def bits_ToFixed.j0 : Nat → Int → Int → Bool → Option (Int × Bool × Int)
  | 0, _, _, _ => none
  | k + 1, x0, x1, x11 => if x11 = true then (some (0, false, 4)) else ((bits_finite.f x0).bind fun t101 => (if t101 = true then ((bits_parts.f x0).bind fun bt102 => (if bt102.2.2 = 0 then (some (0, true, 0)) else (if (wrap64 (bt102.2.1 + x1)) > 0 then ((bits_Len64.f bt102.2.2).bind fun t105 => (if (wrap64 (t105 + (wrap64 (bt102.2.1 + x1)))) > 64 then (some (0, false, 2)) else (if 0 ≤ (wrap64 (bt102.2.1 + x1)) then (bits_ToFixed.j1 k bt102.1 (shl .u64 bt102.2.2 (wrap64 (bt102.2.1 + x1))) false) else (none)))) else (if (wrap64 (bt102.2.1 + x1)) < (-63) then (bits_ToFixed.j1 k bt102.1 0 true) else (if 0 ≤ (wrap64 (-(wrap64 (bt102.2.1 + x1)))) then (bits_ToFixed.j1 k bt102.1 (shr .u64 bt102.2.2 (wrap64 (-(wrap64 (bt102.2.1 + x1))))) ((Go.bits .and .u64 bt102.2.2 (IntKind.u64.wrap ((shl .u64 1 (wrap64 (-(wrap64 (bt102.2.1 + x1))))) - 1))) != 0)) else (none)))))) else (some (0, false, 3))))
def bits_ToFixed.j1 : Nat → Bool → Int → Bool → Option (Int × Bool × Int)
  | 0, _, _, _ => none
  | k + 1, x7, x9, x10 => if x7 = true then (bits_ToFixed.j2 k x7 x9 x10 x10) else (bits_ToFixed.j2 k x7 x9 x10 false)
def bits_ToFixed.j2 : Nat → Bool → Int → Bool → Bool → Option (Int × Bool × Int)
  | 0, _, _, _, _ => none
  | k + 1, x7, x9, x10, x59 => if x59 = true then (if (IntKind.u64.wrap (x9 + 1)) > 9223372036854775808 then (some (0, false, 2)) else (some (wrap64 (IntKind.u64.wrap (-(IntKind.u64.wrap (x9 + 1)))), !x10, 0))) else (if x7 = true then (if x9 > 9223372036854775808 then (some (0, false, 2)) else (some (wrap64 (IntKind.u64.wrap (-x9)), !x10, 0))) else (if x9 ≥ 9223372036854775808 then (some (0, false, 2)) else (some (wrap64 (x9), !x10, 0))))
end
def bits_ToFixed.f (k : Nat) (a0 : Int) (a1 : Int) : Option (Int × Bool × Int) := if a1 < 0 then (bits_ToFixed.j0 k a0 a1 true) else (bits_ToFixed.j0 k a0 a1 (decide (a1 > 60)))
theorem bits_ToFixed.mono_l : ∀ k, (∀ y0 y1 y2, LeO (bits_ToFixed.j0 k y0 y1 y2) (bits_ToFixed.j0 (k + 1) y0 y1 y2)) ∧ (∀ y0 y1 y2, LeO (bits_ToFixed.j1 k y0 y1 y2) (bits_ToFixed.j1 (k + 1) y0 y1 y2)) ∧ (∀ y0 y1 y2 y3, LeO (bits_ToFixed.j2 k y0 y1 y2 y3) (bits_ToFixed.j2 (k + 1) y0 y1 y2 y3))
  | 0 => ⟨fun _ _ _ r h => by simp [bits_ToFixed.j0] at h, fun _ _ _ r h => by simp [bits_ToFixed.j1] at h, fun _ _ _ _ r h => by simp [bits_ToFixed.j2] at h⟩
  | k + 1 => by
    obtain ⟨ih0, ih1, ih2⟩ := bits_ToFixed.mono_l k
    refine ⟨?_, ?_, ?_⟩
    · intro y0 y1 y2
      unfold bits_ToFixed.j0
      repeat' first
      | (with_reducible exact ih0 _ _ _)
      | (with_reducible exact ih1 _ _ _)
      | (with_reducible exact ih2 _ _ _ _)
      | (with_reducible exact LeO.refl _)
      | (with_reducible exact LeO.none _)
      | (with_reducible refine LeO.ite ?_ ?_)
      | (with_reducible refine LeO.bind ?_ (fun _ => ?_))
      | exact ih0 _ _ _
      | exact ih1 _ _ _
      | exact ih2 _ _ _ _
      | exact LeO.none _
      | refine LeO.ite ?_ ?_
      | refine LeO.bind ?_ (fun _ => ?_)
    · intro y0 y1 y2
      unfold bits_ToFixed.j1
      repeat' first
      | (with_reducible exact ih0 _ _ _)
      | (with_reducible exact ih1 _ _ _)
      | (with_reducible exact ih2 _ _ _ _)
      | (with_reducible exact LeO.refl _)
      | (with_reducible exact LeO.none _)
      | (with_reducible refine LeO.ite ?_ ?_)
      | (with_reducible refine LeO.bind ?_ (fun _ => ?_))
      | exact ih0 _ _ _
      | exact ih1 _ _ _
      | exact ih2 _ _ _ _
      | exact LeO.none _
      | refine LeO.ite ?_ ?_
      | refine LeO.bind ?_ (fun _ => ?_)
    · intro y0 y1 y2 y3
      unfold bits_ToFixed.j2
      repeat' first
      | (with_reducible exact ih0 _ _ _)
      | (with_reducible exact ih1 _ _ _)
      | (with_reducible exact ih2 _ _ _ _)
      | (with_reducible exact LeO.refl _)
      | (with_reducible exact LeO.none _)
      | (with_reducible refine LeO.ite ?_ ?_)
      | (with_reducible refine LeO.bind ?_ (fun _ => ?_))
      | exact ih0 _ _ _
      | exact ih1 _ _ _
      | exact ih2 _ _ _ _
      | exact LeO.none _
      | refine LeO.ite ?_ ?_
      | refine LeO.bind ?_ (fun _ => ?_)
theorem bits_ToFixed.mono : ∀ a0 a1 k, LeO (bits_ToFixed.f k a0 a1) (bits_ToFixed.f (k + 1) a0 a1) := by
  intro a0 a1 k
  obtain ⟨ih0, ih1, ih2⟩ := bits_ToFixed.mono_l k
  unfold bits_ToFixed.f
  repeat' first
      | (with_reducible exact ih0 _ _ _)
      | (with_reducible exact ih1 _ _ _)
      | (with_reducible exact ih2 _ _ _ _)
      | (with_reducible exact LeO.refl _)
      | (with_reducible exact LeO.none _)
      | (with_reducible refine LeO.ite ?_ ?_)
      | (with_reducible refine LeO.bind ?_ (fun _ => ?_))
      | exact ih0 _ _ _
      | exact ih1 _ _ _
      | exact ih2 _ _ _ _
      | exact LeO.none _
      | refine LeO.ite ?_ ?_
      | refine LeO.bind ?_ (fun _ => ?_)
set_option maxHeartbeats 8000000 in
set_option maxRecDepth 100000 in
theorem bits_ToFixed.calls (k : Nat) (a0 : Int) (a1 : Int) (r1 : Int) (r2 : Bool) (r3 : Int) (w : World) (h : bits_ToFixed.f k a0 a1 = some (r1, r2, r3)) :
    Calls Tryd.prog 16 #[.int .u64 a0, .int .i64 a1] w fun e w' => e = .returned (.tuple #[.int .i64 r1, .bool r2, .int .i64 r3]) ∧ Below w.heap.size w w' := by
 have HB := Aside0.mk (Below.refl w.heap.size w)
 have H : (if a1 < 0 then (bits_ToFixed.j0 k a0 a1 true) else (bits_ToFixed.j0 k a0 a1 (decide (a1 > 60)))) = some (r1, r2, r3) := h
 clear h
 have HC3 := Aside0.mk H
 clear H
 go_enter Tryd.func16, Tryd.ntmps16
 go_upto_region 1 with (fail)
 go_cut [11] (fun v11 wc => ∃ (kq : Nat) (x11_2 : Bool), v11 = .bool x11_2 ∧ Aside0 (bits_ToFixed.j0 kq a0 a1 x11_2 = some (r1, r2, r3)) ∧ Aside0 (kq ≤ k) ∧ Aside0 (Below w.heap.size w wc))
 case first =>
  have H := HC3.out
  clear HC3
  refine Or.elim (Classical.em (a1 < 0)) (fun c4 => ?p2_) (fun c4 => ?n2_)
  case' p2_ =>
   rw [if_pos c4] at H
   have c4b0 : decide (a1 < 0) = true := decide_eq_true c4
   clear c4
   (first | rw [c4b0] | (simp only [i64_w, i32_w]; rw [c4b0]) | skip)
  case' n2_ =>
   rw [if_neg c4] at H
   have c4b0 : decide (a1 < 0) = false := decide_eq_false c4
   clear c4
   (first | rw [c4b0] | (simp only [i64_w, i32_w]; rw [c4b0]) | skip)
  all_goals
   have H' := Aside0.mk H
   clear H
   go_wp2
   go_meet
   case rel => first | (exact ⟨_, (true), (by first | rfl | (simp; done) | (simp [*]; done)), H', ⟨by first | omega | exact Nat.le_refl _⟩, ⟨by repeat (first | (with_reducible first | exact HB.out | apply below_alloc | apply pw_below_drewN | apply below_drew1) | exact HB.out)⟩⟩) | (exact ⟨_, (decide (a1 > 60)), (by first | rfl | (simp; done) | (simp [*]; done)), H', ⟨by first | omega | exact Nat.le_refl _⟩, ⟨by repeat (first | (with_reducible first | exact HB.out | apply below_alloc | apply pw_below_drewN | apply below_drew1) | exact HB.out)⟩⟩)
 case rest =>
  clear HC3
  (try clear c1); (try clear p2); (try clear c4); (try clear c4b0)
  obtain ⟨kq, x11_2, rfl, HA, HJ2, HB⟩ := hcut
  cases kq with
  | zero => exact absurd HA.out (by simp [bits_ToFixed.j0])
  | succ kj2 =>
   have H := HA.out
   clear HA
   simp only [bits_ToFixed.j0] at H
   by_cases c5 : x11_2 = true
   · subst c5
     have H1 : (some (0, false, 4)) = some (r1, r2, r3) := by rw [if_pos rfl] at H; exact H
     clear H
     have H := H1
     clear H1
     simp only [Option.some.injEq, Prod.mk.injEq] at H
     obtain ⟨rfl, rfl, rfl⟩ := H
     go_wp2
     go_ret3
     exact ⟨by first | rfl | (simp [errW_none, errW_some] <;> rfl) | (simp [*, errW_none, errW_some] <;> rfl), by repeat (first | (with_reducible first | exact HB.out | apply below_alloc | apply pw_below_drewN | apply below_drew1) | exact HB.out)⟩
   · replace c5 := Bool.eq_false_iff.mpr c5
     subst c5
     have H1 : ((bits_finite.f a0).bind fun t101 => (if t101 = true then ((bits_parts.f a0).bind fun bt102 => (if bt102.2.2 = 0 then (some (0, true, 0)) else (if (wrap64 (bt102.2.1 + a1)) > 0 then ((bits_Len64.f bt102.2.2).bind fun t105 => (if (wrap64 (t105 + (wrap64 (bt102.2.1 + a1)))) > 64 then (some (0, false, 2)) else (if 0 ≤ (wrap64 (bt102.2.1 + a1)) then (bits_ToFixed.j1 kj2 bt102.1 (shl .u64 bt102.2.2 (wrap64 (bt102.2.1 + a1))) false) else (none)))) else (if (wrap64 (bt102.2.1 + a1)) < (-63) then (bits_ToFixed.j1 kj2 bt102.1 0 true) else (if 0 ≤ (wrap64 (-(wrap64 (bt102.2.1 + a1)))) then (bits_ToFixed.j1 kj2 bt102.1 (shr .u64 bt102.2.2 (wrap64 (-(wrap64 (bt102.2.1 + a1))))) ((Go.bits .and .u64 bt102.2.2 (IntKind.u64.wrap ((shl .u64 1 (wrap64 (-(wrap64 (bt102.2.1 + a1))))) - 1))) != 0)) else (none)))))) else (some (0, false, 3)))) = some (r1, r2, r3) := by rw [if_neg (show ¬ (false = true) by decide)] at H; exact H
     clear H
     have H := H1
     clear H1
     replace H := Option.bind_eq_some_iff.mp H
     obtain ⟨t101, A60, H⟩ := H
     replace H : (if t101 = true then ((bits_parts.f a0).bind fun bt102 => (if bt102.2.2 = 0 then (some (0, true, 0)) else (if (wrap64 (bt102.2.1 + a1)) > 0 then ((bits_Len64.f bt102.2.2).bind fun t105 => (if (wrap64 (t105 + (wrap64 (bt102.2.1 + a1)))) > 64 then (some (0, false, 2)) else (if 0 ≤ (wrap64 (bt102.2.1 + a1)) then (bits_ToFixed.j1 kj2 bt102.1 (shl .u64 bt102.2.2 (wrap64 (bt102.2.1 + a1))) false) else (none)))) else (if (wrap64 (bt102.2.1 + a1)) < (-63) then (bits_ToFixed.j1 kj2 bt102.1 0 true) else (if 0 ≤ (wrap64 (-(wrap64 (bt102.2.1 + a1)))) then (bits_ToFixed.j1 kj2 bt102.1 (shr .u64 bt102.2.2 (wrap64 (-(wrap64 (bt102.2.1 + a1))))) ((Go.bits .and .u64 bt102.2.2 (IntKind.u64.wrap ((shl .u64 1 (wrap64 (-(wrap64 (bt102.2.1 + a1))))) - 1))) != 0)) else (none)))))) else (some (0, false, 3))) = some (r1, r2, r3) := H
     have A6 := Aside0.mk A60
     clear A60
     by_cases c7 : t101 = true
     · subst c7
       have H1 : ((bits_parts.f a0).bind fun bt102 => (if bt102.2.2 = 0 then (some (0, true, 0)) else (if (wrap64 (bt102.2.1 + a1)) > 0 then ((bits_Len64.f bt102.2.2).bind fun t105 => (if (wrap64 (t105 + (wrap64 (bt102.2.1 + a1)))) > 64 then (some (0, false, 2)) else (if 0 ≤ (wrap64 (bt102.2.1 + a1)) then (bits_ToFixed.j1 kj2 bt102.1 (shl .u64 bt102.2.2 (wrap64 (bt102.2.1 + a1))) false) else (none)))) else (if (wrap64 (bt102.2.1 + a1)) < (-63) then (bits_ToFixed.j1 kj2 bt102.1 0 true) else (if 0 ≤ (wrap64 (-(wrap64 (bt102.2.1 + a1)))) then (bits_ToFixed.j1 kj2 bt102.1 (shr .u64 bt102.2.2 (wrap64 (-(wrap64 (bt102.2.1 + a1))))) ((Go.bits .and .u64 bt102.2.2 (IntKind.u64.wrap ((shl .u64 1 (wrap64 (-(wrap64 (bt102.2.1 + a1))))) - 1))) != 0)) else (none)))))) = some (r1, r2, r3) := by rw [if_pos rfl] at H; exact H
       clear H
       have H := H1
       clear H1
       replace H := Option.bind_eq_some_iff.mp H
       obtain ⟨⟨t102, t103, t104⟩, A80, H⟩ := H
       replace H : (if t104 = 0 then (some (0, true, 0)) else (if (wrap64 (t103 + a1)) > 0 then ((bits_Len64.f t104).bind fun t105 => (if (wrap64 (t105 + (wrap64 (t103 + a1)))) > 64 then (some (0, false, 2)) else (if 0 ≤ (wrap64 (t103 + a1)) then (bits_ToFixed.j1 kj2 t102 (shl .u64 t104 (wrap64 (t103 + a1))) false) else (none)))) else (if (wrap64 (t103 + a1)) < (-63) then (bits_ToFixed.j1 kj2 t102 0 true) else (if 0 ≤ (wrap64 (-(wrap64 (t103 + a1)))) then (bits_ToFixed.j1 kj2 t102 (shr .u64 t104 (wrap64 (-(wrap64 (t103 + a1))))) ((Go.bits .and .u64 t104 (IntKind.u64.wrap ((shl .u64 1 (wrap64 (-(wrap64 (t103 + a1))))) - 1))) != 0)) else (none))))) = some (r1, r2, r3) := H
       have A8 := Aside0.mk A80
       clear A80
       have HC9 := Aside0.mk H
       clear H
       go_upto_block 1 with (first | ((with_reducible refine gate_callee (f := 31) rfl ?_); refine goesL_ (some 20) rfl rfl Tryd.func31 (by kernel_rfl) rfl #[.int .u64 a0] rfl (by (try simp only [List.map_toArray, List.map_cons, List.map_nil]); first | done | rfl | (simp only [List.length_drop, List.length_take]; rfl)) ?_; (with_reducible refine (bits_finite.calls a0 true _ A6.out).mono ?_); rintro e wx88921 ⟨rfl, hb⟩; refine ⟨_, rfl, ?_⟩; have n0_ := Aside0.mk (below_step (by repeat (first | (with_reducible first | exact HB.out | apply below_alloc | apply pw_below_drewN | apply below_drew1) | exact HB.out)) hb); clear HB; have HB := n0_; clear n0_; (try clear hb); (try clear hb2); (try clear hk); (try clear hi)) | ((with_reducible refine gate_callee (f := 32) rfl ?_); refine goesL_ (some 24) rfl rfl Tryd.func32 (by kernel_rfl) rfl #[.int .u64 a0] rfl (by (try simp only [List.map_toArray, List.map_cons, List.map_nil]); first | done | rfl | (simp only [List.length_drop, List.length_take]; rfl)) ?_; (with_reducible refine (bits_parts.calls a0 t102 t103 t104 _ A8.out).mono ?_); rintro e wxec401 ⟨rfl, hb⟩; refine ⟨_, rfl, ?_⟩; have n0_ := Aside0.mk (below_step (by repeat (first | (with_reducible first | exact HB.out | apply below_alloc | apply pw_below_drewN | apply below_drew1) | exact HB.out)) hb); clear HB; have HB := n0_; clear n0_; (try clear hb); (try clear hb2); (try clear hk); (try clear hi)))
       (try simp only [Act.put, List.setIfInBounds_toArray, List.set_cons_zero, List.set_cons_succ])
       go_cut [9, 10] (fun v9 v10 wc => ∃ (kq : Nat) (x9_8 : Int) (x10_8 : Bool), v9 = .int .u64 x9_8 ∧ v10 = .bool x10_8 ∧ Aside0 (bits_ToFixed.j1 kq t102 x9_8 x10_8 = some (r1, r2, r3)) ∧ Aside0 (kq ≤ kj2) ∧ Aside0 (Below w.heap.size w wc))
       case first =>
        have H := HC9.out
        clear HC9
        refine Or.elim (Classical.em (t104 = 0)) (fun c12 => ?p4_) (fun c12 => ?n4_)
        case' p4_ =>
         rw [if_pos c12] at H
         have c12b0 : (t104 == 0) = true := beq_iff_eq.mpr c12
         have c12b1 : (t104 != 0) = false := bne_eq_false_iff_eq.mpr c12
         clear c12
         (first | rw [c12b0] | (simp only [i64_w, i32_w]; rw [c12b0]) | skip)
         simp only [Option.some.injEq, Prod.mk.injEq] at H
         obtain ⟨rfl, rfl, rfl⟩ := H
         have hm3_0 := Aside0.mk trivial
        case' n4_ =>
         rw [if_neg c12] at H
         have c12b0 : (t104 == 0) = false := beq_eq_false_iff_ne.mpr c12
         have c12b1 : (t104 != 0) = true := bne_iff_ne.mpr c12
         (first | rw [c12b0] | (simp only [i64_w, i32_w]; rw [c12b0]) | skip)
         refine Or.elim (Classical.em ((wrap64 (t103 + a1)) > 0)) (fun c13 => ?p5_) (fun c13 => ?n5_)
         case' p5_ =>
          rw [if_pos c13] at H
          have c13b0 : decide (0 < (wrap64 (t103 + a1))) = true := decide_eq_true c13
          clear c13
          replace H := Option.bind_eq_some_iff.mp H
          obtain ⟨t105, A140, H⟩ := H
          replace H : (if (wrap64 (t105 + (wrap64 (t103 + a1)))) > 64 then (some (0, false, 2)) else (if 0 ≤ (wrap64 (t103 + a1)) then (bits_ToFixed.j1 kj2 t102 (shl .u64 t104 (wrap64 (t103 + a1))) false) else (none))) = some (r1, r2, r3) := H
          have A14 := Aside0.mk A140
          clear A140
          refine Or.elim (Classical.em ((wrap64 (t105 + (wrap64 (t103 + a1)))) > 64)) (fun c15 => ?p6_) (fun c15 => ?n6_)
          case' p6_ =>
           rw [if_pos c15] at H
           have c15b0 : decide (64 < (wrap64 (t105 + (wrap64 (t103 + a1))))) = true := decide_eq_true c15
           clear c15
           simp only [Option.some.injEq, Prod.mk.injEq] at H
           obtain ⟨rfl, rfl, rfl⟩ := H
           have hm3_1 := Aside0.mk trivial
          case' n6_ =>
           rw [if_neg c15] at H
           have c15b0 : decide (64 < (wrap64 (t105 + (wrap64 (t103 + a1))))) = false := decide_eq_false c15
           clear c15
           obtain ⟨ji17, hji17⟩ : ∃ j_ : Int, (wrap64 (t103 + a1)) = j_ := ⟨_, rfl⟩
           replace H : (if 0 ≤ (ji17) then (bits_ToFixed.j1 kj2 t102 (shl .u64 t104 (ji17)) false) else (none)) = some (r1, r2, r3) := by first | (rw [hji17] at H; exact H) | (simp only [hji17] at H ⊢; exact H)
           (try rw [hji17] at c13b0)
           (try rw [hji17] at c15b0)
           (try rw [hji17] at A14)
           have hji17w : (IntKind.i64.wrap (t103 + a1)) = ji17 := (i64_w _).trans hji17
           refine Or.elim (Classical.em (0 ≤ (ji17))) (fun c18 => ?p7_) (fun c18 => ?n7_)
           case' p7_ =>
            rw [if_pos c18] at H
            have c18b0 := eq_true c18
            have c18b1 : decide (0 ≤ (ji17)) = true := decide_eq_true c18
            clear c18
            obtain ⟨ji19, hji19⟩ : ∃ j_ : Int, (shl .u64 t104 (ji17)) = j_ := ⟨_, rfl⟩
            replace H : (bits_ToFixed.j1 kj2 t102 ji19 false) = some (r1, r2, r3) := by first | (rw [hji19] at H; exact H) | (simp only [hji19] at H ⊢; exact H)
            (try rw [hji19] at A14)
            have hji19_ : (IntKind.u64.wrap (t104 * 2 ^ min (ji17).toNat 64)) = ji19 := hji19
            have hji19z : (ji17) ≤ 64 → (IntKind.u64.wrap (t104 * 2 ^ (ji17).toNat)) = ji19 := shl_small hji19
            have hm3_2 := Aside0.mk trivial
           case' n7_ =>
            rw [if_neg c18] at H
            exact absurd H (by simp)
         case' n5_ =>
          rw [if_neg c13] at H
          have c13b0 : decide (0 < (wrap64 (t103 + a1))) = false := decide_eq_false c13
          clear c13
          refine Or.elim (Classical.em ((wrap64 (t103 + a1)) < (-63))) (fun c21 => ?p8_) (fun c21 => ?n8_)
          case' p8_ =>
           rw [if_pos c21] at H
           have c21b0 : decide ((wrap64 (t103 + a1)) < (-63)) = true := decide_eq_true c21
           clear c21
           have hm3_3 := Aside0.mk trivial
          case' n8_ =>
           rw [if_neg c21] at H
           have c21b0 : decide ((wrap64 (t103 + a1)) < (-63)) = false := decide_eq_false c21
           clear c21
           obtain ⟨ji22, hji22⟩ : ∃ j_ : Int, (wrap64 (-(wrap64 (t103 + a1)))) = j_ := ⟨_, rfl⟩
           replace H : (if 0 ≤ (ji22) then (bits_ToFixed.j1 kj2 t102 (shr .u64 t104 (ji22)) ((Go.bits .and .u64 t104 (IntKind.u64.wrap ((shl .u64 1 (ji22)) - 1))) != 0)) else (none)) = some (r1, r2, r3) := by first | (rw [hji22] at H; exact H) | (simp only [hji22] at H ⊢; exact H)
           have hji22w : (IntKind.i64.wrap (-(wrap64 (t103 + a1)))) = ji22 := (i64_w _).trans hji22
           refine Or.elim (Classical.em (0 ≤ (ji22))) (fun c23 => ?p9_) (fun c23 => ?n9_)
           case' p9_ =>
            rw [if_pos c23] at H
            have c23b0 := eq_true c23
            have c23b1 : decide (0 ≤ (ji22)) = true := decide_eq_true c23
            clear c23
            obtain ⟨ji24, hji24⟩ : ∃ j_ : Int, (shl .u64 1 (ji22)) = j_ := ⟨_, rfl⟩
            replace H : (bits_ToFixed.j1 kj2 t102 (shr .u64 t104 (ji22)) ((Go.bits .and .u64 t104 (IntKind.u64.wrap ((ji24) - 1))) != 0)) = some (r1, r2, r3) := by first | (rw [hji24] at H; exact H) | (simp only [hji24] at H ⊢; exact H)
            have hji24_ : (IntKind.u64.wrap (1 * 2 ^ min (ji22).toNat 64)) = ji24 := hji24
            have hji24z : (ji22) ≤ 64 → (IntKind.u64.wrap (1 * 2 ^ (ji22).toNat)) = ji24 := shl_small hji24
            have hji24u : (IntKind.u64.wrap (2 ^ min (ji22).toNat 64)) = ji24 := by have h_ := hji24_; rw [Int.one_mul] at h_; exact h_
            have hji24v : (ji22) ≤ 64 → (IntKind.u64.wrap (2 ^ (ji22).toNat)) = ji24 := fun hle_ => by have h_ := hji24z hle_; rw [Int.one_mul] at h_; exact h_
            have c25b0 := eq_true (of_decide_eq_true (by first | (with_reducible assumption) | assumption) : 0 ≤ (ji22))
            obtain ⟨ji26, hji26⟩ : ∃ j_ : Int, (shr .u64 t104 (ji22)) = j_ := ⟨_, rfl⟩
            replace H : (bits_ToFixed.j1 kj2 t102 ji26 ((Go.bits .and .u64 t104 (IntKind.u64.wrap ((ji24) - 1))) != 0)) = some (r1, r2, r3) := by first | (rw [hji26] at H; exact H) | (simp only [hji26] at H ⊢; exact H)
            have hji26_ : (t104 / 2 ^ min (ji22).toNat 64) = ji26 := hji26
            have hji26z : (ji22) ≤ 64 → (t104 / 2 ^ (ji22).toNat) = ji26 := shr_small hji26
            have hm3_3 := Aside0.mk trivial
           case' n9_ =>
            rw [if_neg c23] at H
            exact absurd H (by simp)
        all_goals
         first
          | clear hm3_0
            go_wp2
            go_ret3
            exact ⟨by first | rfl | (simp [errW_none, errW_some] <;> rfl) | (simp [*, errW_none, errW_some] <;> rfl), by repeat (first | (with_reducible first | exact HB.out | apply below_alloc | apply pw_below_drewN | apply below_drew1) | exact HB.out)⟩
          | clear hm3_1
            go_wp2_with (first | ((with_reducible refine gate_callee (f := 33) rfl ?_); refine goesL_ (some 49) rfl rfl Tryd.func33 (by kernel_rfl) rfl #[.int .u64 t104] rfl (by (try simp only [List.map_toArray, List.map_cons, List.map_nil]); first | done | rfl | (simp only [List.length_drop, List.length_take]; rfl)) ?_; (with_reducible refine (bits_Len64.calls t104 t105 _ A14.out).mono ?_); rintro e wx754b1 ⟨rfl, hb⟩; refine ⟨_, rfl, ?_⟩; have n0_ := Aside0.mk (below_step (by repeat (first | (with_reducible first | exact HB.out | apply below_alloc | apply pw_below_drewN | apply below_drew1) | exact HB.out)) hb); clear HB; have HB := n0_; clear n0_; (try clear hb); (try clear hb2); (try clear hk); (try clear hi)))
            go_ret3
            exact ⟨by first | rfl | (simp [errW_none, errW_some] <;> rfl) | (simp [*, errW_none, errW_some] <;> rfl), by repeat (first | (with_reducible first | exact HB.out | apply below_alloc | apply pw_below_drewN | apply below_drew1) | exact HB.out)⟩
          | (first | (have _hm := hm3_2) | (have _hm := hm3_3))
            have H' := Aside0.mk H
            clear H
            first
             | clear hm3_2
               go_wp2_with (first | ((with_reducible refine gate_callee (f := 33) rfl ?_); refine goesL_ (some 49) rfl rfl Tryd.func33 (by kernel_rfl) rfl #[.int .u64 t104] rfl (by (try simp only [List.map_toArray, List.map_cons, List.map_nil]); first | done | rfl | (simp only [List.length_drop, List.length_take]; rfl)) ?_; (with_reducible refine (bits_Len64.calls t104 t105 _ A14.out).mono ?_); rintro e wx754b1 ⟨rfl, hb⟩; refine ⟨_, rfl, ?_⟩; have n0_ := Aside0.mk (below_step (by repeat (first | (with_reducible first | exact HB.out | apply below_alloc | apply pw_below_drewN | apply below_drew1) | exact HB.out)) hb); clear HB; have HB := n0_; clear n0_; (try clear hb); (try clear hb2); (try clear hk); (try clear hi)))
               subst hji17
               go_meet
               case rel => exact ⟨_, (ji19), (false), (by first | rfl | (simp; done) | (simp only [← hji19] <;> (first | rfl | (simp; done))) | (simp [*]; done) | (refine congrArg Value.bool ?_; rw [Bool.eq_iff_iff]; simp only [beq_iff_eq, decide_eq_true_eq, List.length_take]; omega)), (by first | rfl | (simp; done) | (simp [*]; done)), H', ⟨by have := HJ2.out; first | omega | exact Nat.le_refl _⟩, ⟨by repeat (first | (with_reducible first | exact HB.out | apply below_alloc | apply pw_below_drewN | apply below_drew1) | exact HB.out)⟩⟩
             | clear hm3_3
               go_wp2
               go_meet
               case rel => first | (exact ⟨_, (0), (true), (by first | rfl | (simp; done) | (simp [*]; done)), (by first | rfl | (simp; done) | (simp [*]; done)), H', ⟨by have := HJ2.out; first | omega | exact Nat.le_refl _⟩, ⟨by repeat (first | (with_reducible first | exact HB.out | apply below_alloc | apply pw_below_drewN | apply below_drew1) | exact HB.out)⟩⟩) | (exact ⟨_, (ji26), (((Go.bits .and .u64 t104 (IntKind.u64.wrap ((ji24) - 1))) != 0)), (by first | rfl | (simp; done) | (simp only [← hji26] <;> (first | rfl | (simp; done))) | (simp [*]; done) | (refine congrArg Value.bool ?_; rw [Bool.eq_iff_iff]; simp only [beq_iff_eq, decide_eq_true_eq, List.length_take]; omega)), (by first | rfl | (simp; done) | (simp only [← hji24] <;> (first | rfl | (simp; done))) | (simp [*]; done) | (refine congrArg Value.bool ?_; rw [Bool.eq_iff_iff]; simp only [beq_iff_eq, decide_eq_true_eq, List.length_take]; omega)), H', ⟨by have := HJ2.out; first | omega | exact Nat.le_refl _⟩, ⟨by repeat (first | (with_reducible first | exact HB.out | apply below_alloc | apply pw_below_drewN | apply below_drew1) | exact HB.out)⟩⟩)
       case rest =>
        clear HC9
        (try clear c1); (try clear c2); (try clear p2); (try clear c3); (try clear c4); (try clear c4b0); (try clear c5); (try clear p6); (try clear c7); (try clear c12); (try clear c12b0); (try clear c12b1); (try clear c13); (try clear c13b0); (try clear c15); (try clear c15b0); (try clear c16); (try clear c18); (try clear c18b0); (try clear c18b1); (try clear c21); (try clear c21b0); (try clear c23); (try clear c23b0); (try clear c23b1); (try clear c25); (try clear c25b0); (try clear p2)
        obtain ⟨kq, x9_8, x10_8, rfl, rfl, HA, HJ8, HB⟩ := hcut
        cases kq with
        | zero => exact absurd HA.out (by simp [bits_ToFixed.j1])
        | succ kj8 =>
         have H := HA.out
         clear HA
         simp only [bits_ToFixed.j1] at H
         have HC27 := Aside0.mk H
         clear H
         go_upto_region 18 with (fail)
         go_cut [59] (fun v59 wc => ∃ (kq : Nat) (x59_26 : Bool), v59 = .bool x59_26 ∧ Aside0 (bits_ToFixed.j2 kq t102 x9_8 x10_8 x59_26 = some (r1, r2, r3)) ∧ Aside0 (kq ≤ kj8) ∧ Aside0 (Below w.heap.size w wc))
         case first =>
          have H := HC27.out
          clear HC27
          refine Or.elim (Classical.em (t102 = true)) (fun c28 => ?p11_) (fun c28 => ?n11_)
          case' p11_ =>
           subst c28
           have H1 : (bits_ToFixed.j2 kj8 true x9_8 x10_8 x10_8) = some (r1, r2, r3) := by rw [if_pos rfl] at H; exact H
           clear H
           have H := H1
           clear H1
          case' n11_ =>
           replace c28 := Bool.eq_false_iff.mpr c28
           subst c28
           have H1 : (bits_ToFixed.j2 kj8 false x9_8 x10_8 false) = some (r1, r2, r3) := by rw [if_neg (show ¬ (false = true) by decide)] at H; exact H
           clear H
           have H := H1
           clear H1
          all_goals
           have H' := Aside0.mk H
           clear H
           go_wp2
           go_meet
           case rel => first | (exact ⟨_, (x10_8), (by first | rfl | (simp; done) | (simp [*]; done)), H', ⟨by have := HJ2.out; have := HJ8.out; first | omega | exact Nat.le_refl _⟩, ⟨by repeat (first | (with_reducible first | exact HB.out | apply below_alloc | apply pw_below_drewN | apply below_drew1) | exact HB.out)⟩⟩) | (exact ⟨_, (false), (by first | rfl | (simp; done) | (simp [*]; done)), H', ⟨by have := HJ2.out; have := HJ8.out; first | omega | exact Nat.le_refl _⟩, ⟨by repeat (first | (with_reducible first | exact HB.out | apply below_alloc | apply pw_below_drewN | apply below_drew1) | exact HB.out)⟩⟩)
         case rest =>
          clear HC27
          (try clear c1); (try clear c2); (try clear p2); (try clear c3); (try clear c4); (try clear c4b0); (try clear c5); (try clear p6); (try clear c7); (try clear c12); (try clear c12b0); (try clear c12b1); (try clear c13); (try clear c13b0); (try clear c15); (try clear c15b0); (try clear c16); (try clear c18); (try clear c18b0); (try clear c18b1); (try clear c21); (try clear c21b0); (try clear c23); (try clear c23b0); (try clear c23b1); (try clear c25); (try clear c25b0); (try clear c28); (try clear p2); (try clear p6)
          obtain ⟨kq, x59_26, rfl, HA, HJ26, HB⟩ := hcut
          cases kq with
          | zero => exact absurd HA.out (by simp [bits_ToFixed.j2])
          | succ kj26 =>
           have H := HA.out
           clear HA
           simp only [bits_ToFixed.j2] at H
           refine Or.elim (Classical.em (x59_26 = true)) (fun c29 => ?p13_) (fun c29 => ?n13_)
           case' p13_ =>
            subst c29
            have H1 : (if (IntKind.u64.wrap (x9_8 + 1)) > 9223372036854775808 then (some (0, false, 2)) else (some (wrap64 (IntKind.u64.wrap (-(IntKind.u64.wrap (x9_8 + 1)))), !x10_8, 0))) = some (r1, r2, r3) := by rw [if_pos rfl] at H; exact H
            clear H
            have H := H1
            clear H1
            refine Or.elim (Classical.em ((IntKind.u64.wrap (x9_8 + 1)) > 9223372036854775808)) (fun c30 => ?p14_) (fun c30 => ?n14_)
            case' p14_ =>
             rw [if_pos c30] at H
             have c30b0 : decide (9223372036854775808 < (IntKind.u64.wrap (x9_8 + 1))) = true := decide_eq_true c30
             clear c30
             simp only [Option.some.injEq, Prod.mk.injEq] at H
             obtain ⟨rfl, rfl, rfl⟩ := H
            case' n14_ =>
             rw [if_neg c30] at H
             have c30b0 : decide (9223372036854775808 < (IntKind.u64.wrap (x9_8 + 1))) = false := decide_eq_false c30
             clear c30
             simp only [Option.some.injEq, Prod.mk.injEq] at H
             obtain ⟨rfl, rfl, rfl⟩ := H
           case' n13_ =>
            replace c29 := Bool.eq_false_iff.mpr c29
            subst c29
            have H1 : (if t102 = true then (if x9_8 > 9223372036854775808 then (some (0, false, 2)) else (some (wrap64 (IntKind.u64.wrap (-x9_8)), !x10_8, 0))) else (if x9_8 ≥ 9223372036854775808 then (some (0, false, 2)) else (some (wrap64 (x9_8), !x10_8, 0)))) = some (r1, r2, r3) := by rw [if_neg (show ¬ (false = true) by decide)] at H; exact H
            clear H
            have H := H1
            clear H1
            refine Or.elim (Classical.em (t102 = true)) (fun c31 => ?p15_) (fun c31 => ?n15_)
            case' p15_ =>
             subst c31
             have H1 : (if x9_8 > 9223372036854775808 then (some (0, false, 2)) else (some (wrap64 (IntKind.u64.wrap (-x9_8)), !x10_8, 0))) = some (r1, r2, r3) := by rw [if_pos rfl] at H; exact H
             clear H
             have H := H1
             clear H1
             refine Or.elim (Classical.em (x9_8 > 9223372036854775808)) (fun c32 => ?p16_) (fun c32 => ?n16_)
             case' p16_ =>
              rw [if_pos c32] at H
              have c32b0 : decide (9223372036854775808 < x9_8) = true := decide_eq_true c32
              clear c32
              simp only [Option.some.injEq, Prod.mk.injEq] at H
              obtain ⟨rfl, rfl, rfl⟩ := H
             case' n16_ =>
              rw [if_neg c32] at H
              have c32b0 : decide (9223372036854775808 < x9_8) = false := decide_eq_false c32
              clear c32
              simp only [Option.some.injEq, Prod.mk.injEq] at H
              obtain ⟨rfl, rfl, rfl⟩ := H
            case' n15_ =>
             replace c31 := Bool.eq_false_iff.mpr c31
             subst c31
             have H1 : (if x9_8 ≥ 9223372036854775808 then (some (0, false, 2)) else (some (wrap64 (x9_8), !x10_8, 0))) = some (r1, r2, r3) := by rw [if_neg (show ¬ (false = true) by decide)] at H; exact H
             clear H
             have H := H1
             clear H1
             refine Or.elim (Classical.em (x9_8 ≥ 9223372036854775808)) (fun c33 => ?p17_) (fun c33 => ?n17_)
             case' p17_ =>
              rw [if_pos c33] at H
              have c33b0 : decide (9223372036854775808 ≤ x9_8) = true := decide_eq_true c33
              clear c33
              simp only [Option.some.injEq, Prod.mk.injEq] at H
              obtain ⟨rfl, rfl, rfl⟩ := H
             case' n17_ =>
              rw [if_neg c33] at H
              have c33b0 : decide (9223372036854775808 ≤ x9_8) = false := decide_eq_false c33
              clear c33
              simp only [Option.some.injEq, Prod.mk.injEq] at H
              obtain ⟨rfl, rfl, rfl⟩ := H
           all_goals
            go_wp2
            go_ret3
            exact ⟨by first | rfl | (simp [errW_none, errW_some] <;> rfl) | (simp [*, errW_none, errW_some] <;> rfl), by repeat (first | (with_reducible first | exact HB.out | apply below_alloc | apply pw_below_drewN | apply below_drew1) | exact HB.out)⟩
     · replace c7 := Bool.eq_false_iff.mpr c7
       subst c7
       have H1 : (some (0, false, 3)) = some (r1, r2, r3) := by rw [if_neg (show ¬ (false = true) by decide)] at H; exact H
       clear H
       have H := H1
       clear H1
       simp only [Option.some.injEq, Prod.mk.injEq] at H
       obtain ⟨rfl, rfl, rfl⟩ := H
       go_wp2_with (first | ((with_reducible refine gate_callee (f := 31) rfl ?_); refine goesL_ (some 20) rfl rfl Tryd.func31 (by kernel_rfl) rfl #[.int .u64 a0] rfl (by (try simp only [List.map_toArray, List.map_cons, List.map_nil]); first | done | rfl | (simp only [List.length_drop, List.length_take]; rfl)) ?_; (with_reducible refine (bits_finite.calls a0 false _ A6.out).mono ?_); rintro e wxba331 ⟨rfl, hb⟩; refine ⟨_, rfl, ?_⟩; have n0_ := Aside0.mk (below_step (by repeat (first | (with_reducible first | exact HB.out | apply below_alloc | apply pw_below_drewN | apply below_drew1) | exact HB.out)) hb); clear HB; have HB := n0_; clear n0_; (try clear hb); (try clear hb2); (try clear hk); (try clear hi)))
       go_ret3
       exact ⟨by first | rfl | (simp [errW_none, errW_some] <;> rfl) | (simp [*, errW_none, errW_some] <;> rfl), by repeat (first | (with_reducible first | exact HB.out | apply below_alloc | apply pw_below_drewN | apply below_drew1) | exact HB.out)⟩

end Go.Proofs.YtfchcleochphoaaDoor.PBitsFloors
