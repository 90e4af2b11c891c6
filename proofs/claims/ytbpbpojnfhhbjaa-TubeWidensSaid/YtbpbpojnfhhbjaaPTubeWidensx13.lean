/- Made by a program of this session (wip/tools/myprint.py, over the kit's printer): that the Go functions answer as the Lean functions printed beside them. -/
import Derived.Test.YtbpbpojnfhhbjaaPTubeWidensx0
import Derived.Test.YtbpbpojnfhhbjaaPTubeWidensx2
import Derived.Test.YtbpbpojnfhhbjaaPTubeWidensx5
import Derived.Test.YtbpbpojnfhhbjaaPTubeWidensx7
import Derived.Test.YtbpbpojnfhhbjaaPTubeWidensx8
import Derived.Test.YtbpbpojnfhhbjaaPTubeWidensx12
namespace Go.Proofs.Ytbpbpojnfhhbjaa.PTubeWidens
open Go.RowKit Go.Proofs.YtbpbpojnfhhbjaaW.PrintWords Go.Proofs.YtbpbpojnfhhbjaaW.PrintLast Go.Proofs.YtbpbpojnfhhbjaaW.PrintMore
attribute [local go_sem] max2_int min2_int max_two min_two max_three min_three max_four min_four   -- for this text's walks alone
set_option linter.unusedVariables false
set_option linter.unusedSimpArgs false

/-! ### tube_Widen: function 42 -/
mutual
def tube_Widen.j0 : Nat → List (S88) → Int → Int → Bool → Option ((List (S88)) × Int)
  | 0, _, _, _, _ => none
  | k + 1, x0, x1, x2, x30 => if x30 = true then (some (([] : List (S88)), 4)) else (tube_Widen.l0 k x1 x2 ([] : List (S88)) x0 (x0.length : Int) 0)
def tube_Widen.l0 : Nat → Int → Int → List (S88) → List (S88) → Int → Int → Option ((List (S88)) × Int)
  | 0, _, _, _, _, _, _ => none
  | k + 1, x1, x2, x9, x31, x32, x33 => if x33 < x32 then (if 0 ≤ x33 then (if x33 < (x31.length : Int) then (tube_Widen.j2 k x1 x2 x9 x31 x32 x33 ((rd_T88 x31 x33).f0.f0) ((rd_T88 x31 x33).f0.f1.f0) ((rd_T88 x31 x33).f0.f1.f1) ((rd_T88 x31 x33).f0.f2) (wrap64 (((rd_T88 x31 x33).f1) + x1)) ((rd_T88 x31 x33).f2)) else (none)) else (none)) else ((tube_Check.f k x9).bind fun t216 => (if t216 = 0 then (some (x9, 0)) else (some (([] : List (S88)), 4))))
def tube_Widen.j2 : Nat → Int → Int → List (S88) → List (S88) → Int → Int → Int → Int → Int → Int → Int → Int → Option ((List (S88)) × Int)
  | 0, _, _, _, _, _, _, _, _, _, _, _, _ => none
  | k + 1, x1, x2, x9, x31, x32, x33, x213000, x213001, x213002, x213003, x213004, x213005 => tube_Widen.j3 k x1 x2 x9 x31 x32 x33 x213000 x213001 x213002 x213003 x213004 (wrap64 (x213005 + x2))
def tube_Widen.j3 : Nat → Int → Int → List (S88) → List (S88) → Int → Int → Int → Int → Int → Int → Int → Int → Option ((List (S88)) × Int)
  | 0, _, _, _, _, _, _, _, _, _, _, _, _ => none
  | k + 1, x1, x2, x9, x31, x32, x33, x213000, x213001, x213002, x213003, x213004, x213005 => if x9.length < 2932031007402 then (tube_Widen.l0 k x1 x2 (x9 ++ [(⟨(⟨x213000, (⟨x213001, x213002⟩ : S36), x213003⟩ : S71), x213004, x213005⟩ : S88)]) x31 x32 (wrap64 (x33 + 1))) else (none)
end
def tube_Widen.f (k : Nat) (l0 : List (S88)) (a1 : Int) (a2 : Int) : Option ((List (S88)) × Int) := (tube_Check.f k l0).bind fun t210 => (if t210 = 0 then (if a1 < 0 then (tube_Widen.j0 k l0 a1 a2 true) else (if a1 > 1000000 then (tube_Widen.j0 k l0 a1 a2 true) else (if a2 < 0 then (tube_Widen.j0 k l0 a1 a2 true) else (tube_Widen.j0 k l0 a1 a2 (decide (a2 > 60000)))))) else (some (([] : List (S88)), t210)))
theorem tube_Widen.mono_l : ∀ k, (∀ y0 y1 y2 y3, LeO (tube_Widen.j0 k y0 y1 y2 y3) (tube_Widen.j0 (k + 1) y0 y1 y2 y3)) ∧ (∀ y0 y1 y2 y3 y4 y5, LeO (tube_Widen.l0 k y0 y1 y2 y3 y4 y5) (tube_Widen.l0 (k + 1) y0 y1 y2 y3 y4 y5)) ∧ (∀ y0 y1 y2 y3 y4 y5 y6 y7 y8 y9 y10 y11, LeO (tube_Widen.j2 k y0 y1 y2 y3 y4 y5 y6 y7 y8 y9 y10 y11) (tube_Widen.j2 (k + 1) y0 y1 y2 y3 y4 y5 y6 y7 y8 y9 y10 y11)) ∧ (∀ y0 y1 y2 y3 y4 y5 y6 y7 y8 y9 y10 y11, LeO (tube_Widen.j3 k y0 y1 y2 y3 y4 y5 y6 y7 y8 y9 y10 y11) (tube_Widen.j3 (k + 1) y0 y1 y2 y3 y4 y5 y6 y7 y8 y9 y10 y11))
  | 0 => ⟨fun _ _ _ _ r h => by simp [tube_Widen.j0] at h, fun _ _ _ _ _ _ r h => by simp [tube_Widen.l0] at h, fun _ _ _ _ _ _ _ _ _ _ _ _ r h => by simp [tube_Widen.j2] at h, fun _ _ _ _ _ _ _ _ _ _ _ _ r h => by simp [tube_Widen.j3] at h⟩
  | k + 1 => by
    obtain ⟨ih0, ih1, ih2, ih3⟩ := tube_Widen.mono_l k
    refine ⟨?_, ?_, ?_, ?_⟩
    · intro y0 y1 y2 y3
      unfold tube_Widen.j0
      repeat' first
      | (with_reducible exact ih0 _ _ _ _)
      | (with_reducible exact ih1 _ _ _ _ _ _)
      | (with_reducible exact ih2 _ _ _ _ _ _ _ _ _ _ _ _)
      | (with_reducible exact ih3 _ _ _ _ _ _ _ _ _ _ _ _)
      | (with_reducible exact tube_Check.mono _ _)
      | (with_reducible exact LeO.refl _)
      | (with_reducible exact LeO.none _)
      | (with_reducible refine LeO.ite ?_ ?_)
      | (with_reducible refine LeO.bind ?_ (fun _ => ?_))
      | exact ih0 _ _ _ _
      | exact ih1 _ _ _ _ _ _
      | exact ih2 _ _ _ _ _ _ _ _ _ _ _ _
      | exact ih3 _ _ _ _ _ _ _ _ _ _ _ _
      | exact tube_Check.mono _ _
      | exact LeO.none _
      | refine LeO.ite ?_ ?_
      | refine LeO.bind ?_ (fun _ => ?_)
    · intro y0 y1 y2 y3 y4 y5
      unfold tube_Widen.l0
      repeat' first
      | (with_reducible exact ih0 _ _ _ _)
      | (with_reducible exact ih1 _ _ _ _ _ _)
      | (with_reducible exact ih2 _ _ _ _ _ _ _ _ _ _ _ _)
      | (with_reducible exact ih3 _ _ _ _ _ _ _ _ _ _ _ _)
      | (with_reducible exact tube_Check.mono _ _)
      | (with_reducible exact LeO.refl _)
      | (with_reducible exact LeO.none _)
      | (with_reducible refine LeO.ite ?_ ?_)
      | (with_reducible refine LeO.bind ?_ (fun _ => ?_))
      | exact ih0 _ _ _ _
      | exact ih1 _ _ _ _ _ _
      | exact ih2 _ _ _ _ _ _ _ _ _ _ _ _
      | exact ih3 _ _ _ _ _ _ _ _ _ _ _ _
      | exact tube_Check.mono _ _
      | exact LeO.none _
      | refine LeO.ite ?_ ?_
      | refine LeO.bind ?_ (fun _ => ?_)
    · intro y0 y1 y2 y3 y4 y5 y6 y7 y8 y9 y10 y11
      unfold tube_Widen.j2
      repeat' first
      | (with_reducible exact ih0 _ _ _ _)
      | (with_reducible exact ih1 _ _ _ _ _ _)
      | (with_reducible exact ih2 _ _ _ _ _ _ _ _ _ _ _ _)
      | (with_reducible exact ih3 _ _ _ _ _ _ _ _ _ _ _ _)
      | (with_reducible exact tube_Check.mono _ _)
      | (with_reducible exact LeO.refl _)
      | (with_reducible exact LeO.none _)
      | (with_reducible refine LeO.ite ?_ ?_)
      | (with_reducible refine LeO.bind ?_ (fun _ => ?_))
      | exact ih0 _ _ _ _
      | exact ih1 _ _ _ _ _ _
      | exact ih2 _ _ _ _ _ _ _ _ _ _ _ _
      | exact ih3 _ _ _ _ _ _ _ _ _ _ _ _
      | exact tube_Check.mono _ _
      | exact LeO.none _
      | refine LeO.ite ?_ ?_
      | refine LeO.bind ?_ (fun _ => ?_)
    · intro y0 y1 y2 y3 y4 y5 y6 y7 y8 y9 y10 y11
      unfold tube_Widen.j3
      repeat' first
      | (with_reducible exact ih0 _ _ _ _)
      | (with_reducible exact ih1 _ _ _ _ _ _)
      | (with_reducible exact ih2 _ _ _ _ _ _ _ _ _ _ _ _)
      | (with_reducible exact ih3 _ _ _ _ _ _ _ _ _ _ _ _)
      | (with_reducible exact tube_Check.mono _ _)
      | (with_reducible exact LeO.refl _)
      | (with_reducible exact LeO.none _)
      | (with_reducible refine LeO.ite ?_ ?_)
      | (with_reducible refine LeO.bind ?_ (fun _ => ?_))
      | exact ih0 _ _ _ _
      | exact ih1 _ _ _ _ _ _
      | exact ih2 _ _ _ _ _ _ _ _ _ _ _ _
      | exact ih3 _ _ _ _ _ _ _ _ _ _ _ _
      | exact tube_Check.mono _ _
      | exact LeO.none _
      | refine LeO.ite ?_ ?_
      | refine LeO.bind ?_ (fun _ => ?_)
theorem tube_Widen.mono : ∀ a0 a1 a2 k, LeO (tube_Widen.f k a0 a1 a2) (tube_Widen.f (k + 1) a0 a1 a2) := by
  intro a0 a1 a2 k
  obtain ⟨ih0, ih1, ih2, ih3⟩ := tube_Widen.mono_l k
  unfold tube_Widen.f
  repeat' first
      | (with_reducible exact ih0 _ _ _ _)
      | (with_reducible exact ih1 _ _ _ _ _ _)
      | (with_reducible exact ih2 _ _ _ _ _ _ _ _ _ _ _ _)
      | (with_reducible exact ih3 _ _ _ _ _ _ _ _ _ _ _ _)
      | (with_reducible exact tube_Check.mono _ _)
      | (with_reducible exact LeO.refl _)
      | (with_reducible exact LeO.none _)
      | (with_reducible refine LeO.ite ?_ ?_)
      | (with_reducible refine LeO.bind ?_ (fun _ => ?_))
      | exact ih0 _ _ _ _
      | exact ih1 _ _ _ _ _ _
      | exact ih2 _ _ _ _ _ _ _ _ _ _ _ _
      | exact ih3 _ _ _ _ _ _ _ _ _ _ _ _
      | exact tube_Check.mono _ _
      | exact LeO.none _
      | refine LeO.ite ?_ ?_
      | refine LeO.bind ?_ (fun _ => ?_)
set_option maxHeartbeats 8000000 in
set_option maxRecDepth 100000 in
theorem tube_Widen.calls (k : Nat) (A0 : Option Addr) (c0 : Nat) (l0 : List (S88)) (a1 : Int) (a2 : Int) (r1 : List (S88)) (r2 : Int) (w : World) (hr0 : Kd.C k88 w A0 l0.length l0) (hc0 : l0.length ≤ c0) (h : tube_Widen.f k l0 a1 a2 = some (r1, r2)) :
    Calls Try.prog 42 #[.slice A0 l0.length c0, .int .i64 a1, .int .i64 a2] w fun e w' => ∃ v0_ : Value, e = .returned (.tuple #[v0_, .int .i64 r2]) ∧ Kd.R k88 88 w' w.heap.size (fun _ => True) v0_ r1 ∧ Below w.heap.size w w' := by
 have hu88 := Try.underlying88
 have HR0 := Aside0.mk hr0
 have HC0 := Aside0.mk hc0
 clear hr0 hc0
 have HB := Aside0.mk (Below.refl w.heap.size w)
 have H : ((tube_Check.f k l0).bind fun t210 => (if t210 = 0 then (if a1 < 0 then (tube_Widen.j0 k l0 a1 a2 true) else (if a1 > 1000000 then (tube_Widen.j0 k l0 a1 a2 true) else (if a2 < 0 then (tube_Widen.j0 k l0 a1 a2 true) else (tube_Widen.j0 k l0 a1 a2 (decide (a2 > 60000)))))) else (some (([] : List (S88)), t210)))) = some (r1, r2) := h
 clear h
 replace H := Option.bind_eq_some_iff.mp H
 obtain ⟨t210, A40, H⟩ := H
 replace H : (if t210 = 0 then (if a1 < 0 then (tube_Widen.j0 k l0 a1 a2 true) else (if a1 > 1000000 then (tube_Widen.j0 k l0 a1 a2 true) else (if a2 < 0 then (tube_Widen.j0 k l0 a1 a2 true) else (tube_Widen.j0 k l0 a1 a2 (decide (a2 > 60000)))))) else (some (([] : List (S88)), t210))) = some (r1, r2) := H
 have A4 := Aside0.mk A40
 clear A40
 refine Or.elim (Classical.em (t210 = 0)) (fun c5 => ?p2_) (fun c5 => ?n2_)
 case' p2_ =>
  rw [if_pos c5] at H
  have c5b0 : (t210 == 0) = true := beq_iff_eq.mpr c5
  have c5b1 : (t210 != 0) = false := bne_eq_false_iff_eq.mpr c5
  clear c5
  have HC6 := Aside0.mk H
  clear H
  have hm1_0 := Aside0.mk trivial
 case' n2_ =>
  rw [if_neg c5] at H
  have c5b0 : (t210 == 0) = false := beq_eq_false_iff_ne.mpr c5
  have c5b1 : (t210 != 0) = true := bne_iff_ne.mpr c5
  simp only [Option.some.injEq, Prod.mk.injEq] at H
  obtain ⟨rfl, rfl⟩ := H
  have hm1_1 := Aside0.mk trivial
 all_goals
  go_enter Try.func42, Try.ntmps42
  first
   | clear hm1_0
     go_upto_region 4 with (first | ((with_reducible refine gate_callee (f := 39) rfl ?_); refine goesL_ (some 13) rfl rfl Try.func39 (by kernel_rfl) rfl #[.slice A0 l0.length c0] rfl (by (try simp only [List.map_toArray, List.map_cons, List.map_nil]); first | done | rfl | (simp only [List.length_drop, List.length_take]; rfl)) ?_; (with_reducible refine (tube_Check.calls k _ _ l0 t210 _ ?side1 ?side2 A4.out).mono ?_); (case side1 => repeat (first | exact HR0.out | (with_reducible refine Kd.C_alloc ?_ _) | (with_reducible refine Kd.C_drewN ?_ _) | (with_reducible refine Kd.C_drew ?_))); (case side2 => exact HC0.out); rintro e wx34151 ⟨rfl, hb⟩; refine ⟨_, rfl, ?_⟩; have n0_ := Aside0.mk (below_step (by repeat (first | (with_reducible first | exact HB.out | apply below_alloc | apply pw_below_drewN | apply below_drew1) | exact HB.out)) hb); clear HB; have HB := n0_; clear n0_; (try clear hb); (try clear hb2); (try clear hk); (try clear hi)))
     (try simp only [Act.put, List.setIfInBounds_toArray, List.set_cons_zero, List.set_cons_succ])
     go_cut [30] (fun v30 wc => ∃ (kq : Nat) (x30_5 : Bool), v30 = .bool x30_5 ∧ Aside0 (tube_Widen.j0 kq l0 a1 a2 x30_5 = some (r1, r2)) ∧ Aside0 (kq ≤ k) ∧ Aside0 (Below w.heap.size w wc))
     case first =>
      have H := HC6.out
      clear HC6
      refine Or.elim (Classical.em (a1 < 0)) (fun c8 => ?p4_) (fun c8 => ?n4_)
      case' p4_ =>
       rw [if_pos c8] at H
       have c8b0 : decide (a1 < 0) = true := decide_eq_true c8
       clear c8
       (first | rw [c8b0] | (simp only [i64_w, i32_w]; rw [c8b0]) | skip)
      case' n4_ =>
       rw [if_neg c8] at H
       have c8b0 : decide (a1 < 0) = false := decide_eq_false c8
       clear c8
       (first | rw [c8b0] | (simp only [i64_w, i32_w]; rw [c8b0]) | skip)
       refine Or.elim (Classical.em (a1 > 1000000)) (fun c9 => ?p5_) (fun c9 => ?n5_)
       case' p5_ =>
        rw [if_pos c9] at H
        have c9b0 : decide (1000000 < a1) = true := decide_eq_true c9
        clear c9
       case' n5_ =>
        rw [if_neg c9] at H
        have c9b0 : decide (1000000 < a1) = false := decide_eq_false c9
        clear c9
        refine Or.elim (Classical.em (a2 < 0)) (fun c10 => ?p6_) (fun c10 => ?n6_)
        case' p6_ =>
         rw [if_pos c10] at H
         have c10b0 : decide (a2 < 0) = true := decide_eq_true c10
         clear c10
        case' n6_ =>
         rw [if_neg c10] at H
         have c10b0 : decide (a2 < 0) = false := decide_eq_false c10
         clear c10
      all_goals
       have H' := Aside0.mk H
       clear H
       go_wp2
       go_meet
       case rel => first | (exact ⟨_, (true), (by first | rfl | (simp; done) | (simp [*]; done)), H', ⟨by first | omega | exact Nat.le_refl _⟩, ⟨by repeat (first | (with_reducible first | exact HB.out | apply below_alloc | apply pw_below_drewN | apply below_drew1) | exact HB.out)⟩⟩) | (exact ⟨_, (decide (a2 > 60000)), (by first | rfl | (simp; done) | (simp [*]; done)), H', ⟨by first | omega | exact Nat.le_refl _⟩, ⟨by repeat (first | (with_reducible first | exact HB.out | apply below_alloc | apply pw_below_drewN | apply below_drew1) | exact HB.out)⟩⟩)
     case rest =>
      clear HC6
      (try clear c1); (try clear p2); (try clear c3); (try clear c4); (try clear c5); (try clear c5b0); (try clear c5b1); (try clear c8); (try clear c8b0); (try clear c9); (try clear c9b0); (try clear c10); (try clear c10b0)
      obtain ⟨kq, x30_5, rfl, HA, HJ5, HB⟩ := hcut
      cases kq with
      | zero => exact absurd HA.out (by simp [tube_Widen.j0])
      | succ kj5 =>
       have H := HA.out
       clear HA
       simp only [tube_Widen.j0] at H
       by_cases c11 : x30_5 = true
       · subst c11
         have H1 : (some (([] : List (S88)), 4)) = some (r1, r2) := by rw [if_pos rfl] at H; exact H
         clear H
         have H := H1
         clear H1
         simp only [Option.some.injEq, Prod.mk.injEq] at H
         obtain ⟨rfl, rfl⟩ := H
         go_wp2
         go_ret2
         exact ⟨_, by first | rfl | (simp [errW_none, errW_some] <;> rfl) | (simp [*, errW_none, errW_some] <;> rfl), by first | exact Kd.R_nil _ _ _ _ _ | exact Kd.N_nil _ _ _ _ _ | exact Kd.V_nil _ _ _ _ _ | exact Kd.Q_nil _ _ _ _ _ | exact Kd.S_nil _ _ _ _ _, by repeat (first | (with_reducible first | exact HB.out | apply below_alloc | apply pw_below_drewN | apply below_drew1) | exact HB.out)⟩
       · replace c11 := Bool.eq_false_iff.mpr c11
         subst c11
         have H1 : (tube_Widen.l0 kj5 a1 a2 ([] : List (S88)) l0 (l0.length : Int) 0) = some (r1, r2) := by rw [if_neg (show ¬ (false = true) by decide)] at H; exact H
         clear H
         have H := H1
         clear H1
         have H' := Aside0.mk H
         clear H
         go_wp2
         go_loopg [9, 33] kj5 (fun kq v9 v33 w' => ∃ (x9_2 : List (S88)) (x33_2 : Int), v33 = .int .i64 x33_2 ∧ Aside0 (tube_Widen.l0 kq a1 a2 x9_2 l0 (l0.length : Int) x33_2 = some (r1, r2)) ∧ Aside0 (kq ≤ kj5) ∧ Aside0 (Kd.R k88 88 w' w.heap.size (fun _ => True) v9 x9_2) ∧ Aside0 (Below w.heap.size w w'))
         case atStart => exact ⟨(([] : List (S88))), (0), (by first | rfl | (simp; done) | (simp [*]; done)), H', ⟨Nat.le_refl _⟩, ⟨by first | exact Kd.R_nil _ _ _ _ _ | exact Kd.N_nil _ _ _ _ _ | exact Kd.V_nil _ _ _ _ _ | exact Kd.Q_nil _ _ _ _ _ | exact Kd.S_nil _ _ _ _ _⟩, ⟨by repeat (first | (with_reducible first | exact HB.out | apply below_alloc | apply pw_below_drewN | apply below_drew1) | exact HB.out)⟩⟩
         case round =>
          clear H'
          (try clear c1); (try clear p2); (try clear c3); (try clear c4); (try clear c5); (try clear c5b0); (try clear c5b1); (try clear c8); (try clear c8b0); (try clear c9); (try clear c9b0); (try clear c10); (try clear c10b0); (try clear c11); (try clear p2)
          obtain ⟨x9_2, x33_2, rfl, HA, HK2, HO_9, HB⟩ := hrel
          cases gk with
          | zero => exact absurd HA.out (by simp [tube_Widen.l0])
          | succ k2 =>
           have H := HA.out
           clear HA
           simp only [tube_Widen.l0] at H
           refine Or.elim (Classical.em (x33_2 < (l0.length : Int))) (fun c12 => ?p8_) (fun c12 => ?n8_)
           case' p8_ =>
            rw [if_pos c12] at H
            have c12b0 : decide (x33_2 < (l0.length : Int)) = true := decide_eq_true c12
            clear c12
            refine Or.elim (Classical.em (0 ≤ x33_2)) (fun c13 => ?p9_) (fun c13 => ?n9_)
            case' p9_ =>
             rw [if_pos c13] at H
             have c13b0 : decide (0 ≤ x33_2) = true := decide_eq_true c13
             clear c13
             refine Or.elim (Classical.em (x33_2 < (l0.length : Int))) (fun c14 => ?p10_) (fun c14 => ?n10_)
             case' p10_ =>
              rw [if_pos c14] at H
              have c14b0 : decide (x33_2 < (l0.length : Int)) = true := decide_eq_true c14
              clear c14
              have HC15 := Aside0.mk H
              clear H
              have p211 : 0 ≤ (x33_2 : Int) := of_decide_eq_true (by first | (with_reducible assumption) | assumption)
              have q211 : x33_2 < (l0.length : Int) := of_decide_eq_true (by first | (with_reducible assumption) | assumption)
              obtain ⟨ad211, e211, hx211_0, hx211_1, hx211_2, hx211_3, hx211_4, hx211_5⟩ := at_T88 HR0.out x33_2 p211 q211
              cases e211
              replace hx211_0 := (HB.out.cell (World.block_lt_of_cell? w _ hx211_0)).trans hx211_0
              replace hx211_1 := (HB.out.cell (World.block_lt_of_cell? w _ hx211_1)).trans hx211_1
              replace hx211_2 := (HB.out.cell (World.block_lt_of_cell? w _ hx211_2)).trans hx211_2
              replace hx211_3 := (HB.out.cell (World.block_lt_of_cell? w _ hx211_3)).trans hx211_3
              replace hx211_4 := (HB.out.cell (World.block_lt_of_cell? w _ hx211_4)).trans hx211_4
              replace hx211_5 := (HB.out.cell (World.block_lt_of_cell? w _ hx211_5)).trans hx211_5
              replace p211 := eq_true p211
              replace q211 := eq_true q211
              have hm7_0 := Aside0.mk trivial
             case' n10_ =>
              rw [if_neg c14] at H
              exact absurd H (by simp)
            case' n9_ =>
             rw [if_neg c13] at H
             exact absurd H (by simp)
           case' n8_ =>
            rw [if_neg c12] at H
            have c12b0 : decide (x33_2 < (l0.length : Int)) = false := decide_eq_false c12
            clear c12
            replace H := Option.bind_eq_some_iff.mp H
            obtain ⟨t216, A240, H⟩ := H
            replace H : (if t216 = 0 then (some (x9_2, 0)) else (some (([] : List (S88)), 4))) = some (r1, r2) := H
            have A24 := Aside0.mk A240
            clear A240
            refine Or.elim (Classical.em (t216 = 0)) (fun c25 => ?p11_) (fun c25 => ?n11_)
            case' p11_ =>
             rw [if_pos c25] at H
             have c25b0 : (t216 == 0) = true := beq_iff_eq.mpr c25
             have c25b1 : (t216 != 0) = false := bne_eq_false_iff_eq.mpr c25
             clear c25
             simp only [Option.some.injEq, Prod.mk.injEq] at H
             obtain ⟨rfl, rfl⟩ := H
             obtain ⟨Aozc1, cozc1, eozc1⟩ := Kd.R_slice HO_9.out
             subst eozc1
             have hm7_1 := Aside0.mk trivial
            case' n11_ =>
             rw [if_neg c25] at H
             have c25b0 : (t216 == 0) = false := beq_eq_false_iff_ne.mpr c25
             have c25b1 : (t216 != 0) = true := bne_iff_ne.mpr c25
             simp only [Option.some.injEq, Prod.mk.injEq] at H
             obtain ⟨rfl, rfl⟩ := H
             obtain ⟨Aozc2, cozc2, eozc2⟩ := Kd.R_slice HO_9.out
             subst eozc2
             have hm7_2 := Aside0.mk trivial
           all_goals
            first
             | clear hm7_0
               go_upto_region 10 with (first | ((with_reducible refine gate_dst (N := 11) rfl ?_); refine box_event ?hg (N := 11) ?hd (cs := #[.int .i64 0, .int .i64 0, .int .i64 0, .int .i64 0, .int .i64 0, .int .i64 0]) (t := 88) ?hr ?_; (case hd => rfl); (case hg => rfl); (case hr => first | (go_simp; done) | (go_simp; rfl)); intro gb212 hg wx69001 hbox hb; have n0_ := Aside0.mk (Kd.R_below (Kd.R_elderB (by (with_reducible repeat (first | apply Kd.R_alloc | apply Kd.R_drewN | apply Kd.R_drew)); exact HO_9.out) gb212 (Nat.le_of_eq hg.symm)) hb); have n1_ := Aside0.mk (below_step (by repeat (first | (with_reducible first | exact HB.out | apply below_alloc | apply pw_below_drewN | apply below_drew1) | exact HB.out)) hb); have n2_ := Aside0.mk (hbox); have n3_ := Aside0.mk ((by rw [hg]; exact (below_size (by repeat (first | (with_reducible first | exact HB.out | apply below_alloc | apply pw_below_drewN | apply below_drew1) | exact HB.out))) : w.heap.size ≤ gb212)); have n4_ := Aside0.mk ((by rw [hg]; exact (below_size (by repeat (first | (with_reducible first | exact HB.out | apply below_alloc | apply pw_below_drewN | apply below_drew1) | exact HB.out))) : w.heap.size ≤ gb212)); clear HO_9; clear HB; have HO_9 := n0_; have HB := n1_; have BK212 := n2_; have GW212 := n3_; have GE212 := n4_; clear n0_ n1_ n2_ n3_ n4_; clear hb hbox hg; have hczx69001 : wx69001.cell? ⟨gb212, 0, none⟩ = some (.int .i64 0) := (blk_cell BK212.out 0).trans rfl; have hczx69002 : wx69001.cell? ⟨gb212, 1, none⟩ = some (.int .i64 0) := (blk_cell BK212.out 1).trans rfl; have hczx69003 : wx69001.cell? ⟨gb212, 2, none⟩ = some (.int .i64 0) := (blk_cell BK212.out 2).trans rfl; have hczx69004 : wx69001.cell? ⟨gb212, 3, none⟩ = some (.int .i64 0) := (blk_cell BK212.out 3).trans rfl; have hczx69005 : wx69001.cell? ⟨gb212, 4, none⟩ = some (.int .i64 0) := (blk_cell BK212.out 4).trans rfl; have hczx69006 : wx69001.cell? ⟨gb212, 5, none⟩ = some (.int .i64 0) := (blk_cell BK212.out 5).trans rfl; have hfzx69001 := blk_frozen BK212.out 0; have hfzx69002 := blk_frozen BK212.out 1; have hfzx69003 := blk_frozen BK212.out 2; have hfzx69004 := blk_frozen BK212.out 3; have hfzx69005 := blk_frozen BK212.out 4; have hfzx69006 := blk_frozen BK212.out 5))
               (try simp only [Act.put, List.setIfInBounds_toArray, List.set_cons_zero, List.set_cons_succ])
               go_cut [] (fun wc => ∃ (kq : Nat) (x213004_14 : Int), Aside0 (tube_Widen.j2 kq a1 a2 x9_2 l0 (l0.length : Int) x33_2 ((rd_T88 l0 x33_2).f0.f0) ((rd_T88 l0 x33_2).f0.f1.f0) ((rd_T88 l0 x33_2).f0.f1.f1) ((rd_T88 l0 x33_2).f0.f2) x213004_14 ((rd_T88 l0 x33_2).f2) = some (r1, r2)) ∧ Aside0 (kq ≤ k2) ∧ Aside0 (Kd.R k88 88 wc w.heap.size (fun k_ => k_ ≠ gb212) u9 x9_2) ∧ Aside0 (wc.heap[gb212]? = some (.cells #[.int .i64 ((rd_T88 l0 x33_2).f0.f0), .int .i64 ((rd_T88 l0 x33_2).f0.f1.f0), .int .i64 ((rd_T88 l0 x33_2).f0.f1.f1), .int .i64 ((rd_T88 l0 x33_2).f0.f2), .int .i64 x213004_14, .int .i64 ((rd_T88 l0 x33_2).f2)] 88 (0, 0))) ∧ Aside0 (Below w.heap.size w wc))
               case first =>
                have H := HC15.out
                clear HC15
                have H' := Aside0.mk H
                clear H
                have hczze1 : wx69001.cell? ⟨gb212, 0, none⟩ = some (.int .i64 0) := (blk_cell BK212.out 0).trans rfl
                have hczze2 : wx69001.cell? ⟨gb212, 1, none⟩ = some (.int .i64 0) := (blk_cell BK212.out 1).trans rfl
                have hczze3 : wx69001.cell? ⟨gb212, 2, none⟩ = some (.int .i64 0) := (blk_cell BK212.out 2).trans rfl
                have hczze4 : wx69001.cell? ⟨gb212, 3, none⟩ = some (.int .i64 0) := (blk_cell BK212.out 3).trans rfl
                have hczze5 : wx69001.cell? ⟨gb212, 4, none⟩ = some (.int .i64 0) := (blk_cell BK212.out 4).trans rfl
                have hczze6 : wx69001.cell? ⟨gb212, 5, none⟩ = some (.int .i64 0) := (blk_cell BK212.out 5).trans rfl
                have hfzze1 := blk_frozen BK212.out 0
                have hfzze2 := blk_frozen BK212.out 1
                have hfzze3 := blk_frozen BK212.out 2
                have hfzze4 := blk_frozen BK212.out 3
                have hfzze5 := blk_frozen BK212.out 4
                have hfzze6 := blk_frozen BK212.out 5
                go_wp2
                go_meet
                case rel => exact ⟨_, (wrap64 (((rd_T88 l0 x33_2).f1) + a1)), H', ⟨by have := HJ5.out; have := HK2.out; first | omega | exact Nat.le_refl _⟩, ⟨by (with_reducible repeat (first | apply Kd.R_alloc | apply Kd.R_drewN | apply Kd.R_drew)); exact Kd.R_mono (Kd.R_far (p := ⟨gb212, 4, none⟩) (Kd.R_far (p := ⟨gb212, 5, none⟩) (Kd.R_far (p := ⟨gb212, 4, none⟩) (Kd.R_far (p := ⟨gb212, 3, none⟩) (Kd.R_far (p := ⟨gb212, 2, none⟩) (Kd.R_far (p := ⟨gb212, 1, none⟩) (Kd.R_far (p := ⟨gb212, 0, none⟩) (Kd.R_mono HO_9.out (fun k_ hk => (⟨hk, hk.2⟩ : _ ∧ k_ ≠ gb212))) (fun _ hk => hk.2) (.int .i64 ((rd_T88 l0 x33_2).f0.f0))) (fun _ hk => hk.2) (.int .i64 ((rd_T88 l0 x33_2).f0.f1.f0))) (fun _ hk => hk.2) (.int .i64 ((rd_T88 l0 x33_2).f0.f1.f1))) (fun _ hk => hk.2) (.int .i64 ((rd_T88 l0 x33_2).f0.f2))) (fun _ hk => hk.2) (.int .i64 ((rd_T88 l0 x33_2).f1))) (fun _ hk => hk.2) (.int .i64 ((rd_T88 l0 x33_2).f2))) (fun _ hk => hk.2) (.int .i64 (wrap64 (((rd_T88 l0 x33_2).f1) + a1)))) (fun _ hk => hk.1.2)⟩, ⟨by (with_reducible repeat (first | refine blk_drewN ?_ _ | refine blk_drew ?_ | refine blk_alloc ?_ _)); refine blk_put (cs := #[.int .i64 ((rd_T88 l0 x33_2).f0.f0), .int .i64 ((rd_T88 l0 x33_2).f0.f1.f0), .int .i64 ((rd_T88 l0 x33_2).f0.f1.f1), .int .i64 ((rd_T88 l0 x33_2).f0.f2), .int .i64 ((rd_T88 l0 x33_2).f1), .int .i64 ((rd_T88 l0 x33_2).f2)]) ?_ 4 _ rfl; (with_reducible repeat (first | refine blk_drewN ?_ _ | refine blk_drew ?_ | refine blk_alloc ?_ _)); refine blk_put (cs := #[.int .i64 ((rd_T88 l0 x33_2).f0.f0), .int .i64 ((rd_T88 l0 x33_2).f0.f1.f0), .int .i64 ((rd_T88 l0 x33_2).f0.f1.f1), .int .i64 ((rd_T88 l0 x33_2).f0.f2), .int .i64 ((rd_T88 l0 x33_2).f1), .int .i64 0]) ?_ 5 _ rfl; (with_reducible repeat (first | refine blk_drewN ?_ _ | refine blk_drew ?_ | refine blk_alloc ?_ _)); refine blk_put (cs := #[.int .i64 ((rd_T88 l0 x33_2).f0.f0), .int .i64 ((rd_T88 l0 x33_2).f0.f1.f0), .int .i64 ((rd_T88 l0 x33_2).f0.f1.f1), .int .i64 ((rd_T88 l0 x33_2).f0.f2), .int .i64 0, .int .i64 0]) ?_ 4 _ rfl; (with_reducible repeat (first | refine blk_drewN ?_ _ | refine blk_drew ?_ | refine blk_alloc ?_ _)); refine blk_put (cs := #[.int .i64 ((rd_T88 l0 x33_2).f0.f0), .int .i64 ((rd_T88 l0 x33_2).f0.f1.f0), .int .i64 ((rd_T88 l0 x33_2).f0.f1.f1), .int .i64 0, .int .i64 0, .int .i64 0]) ?_ 3 _ rfl; (with_reducible repeat (first | refine blk_drewN ?_ _ | refine blk_drew ?_ | refine blk_alloc ?_ _)); refine blk_put (cs := #[.int .i64 ((rd_T88 l0 x33_2).f0.f0), .int .i64 ((rd_T88 l0 x33_2).f0.f1.f0), .int .i64 0, .int .i64 0, .int .i64 0, .int .i64 0]) ?_ 2 _ rfl; (with_reducible repeat (first | refine blk_drewN ?_ _ | refine blk_drew ?_ | refine blk_alloc ?_ _)); refine blk_put (cs := #[.int .i64 ((rd_T88 l0 x33_2).f0.f0), .int .i64 0, .int .i64 0, .int .i64 0, .int .i64 0, .int .i64 0]) ?_ 1 _ rfl; (with_reducible repeat (first | refine blk_drewN ?_ _ | refine blk_drew ?_ | refine blk_alloc ?_ _)); refine blk_put (cs := #[.int .i64 0, .int .i64 0, .int .i64 0, .int .i64 0, .int .i64 0, .int .i64 0]) ?_ 0 _ rfl; (with_reducible repeat (first | refine blk_drewN ?_ _ | refine blk_drew ?_ | refine blk_alloc ?_ _)); exact BK212.out⟩, ⟨by repeat (first | (with_reducible first | exact HB.out | apply below_alloc | apply pw_below_drewN | apply below_drew1 | refine below_set ?_ GE212.out) | exact HB.out)⟩⟩
               case rest =>
                clear HC15
                (try clear c1); (try clear p2); (try clear q2); (try clear hx2); (try clear c3); (try clear c4); (try clear c5); (try clear c5b0); (try clear c5b1); (try clear p6); (try clear c8); (try clear c8b0); (try clear c9); (try clear c9b0); (try clear c10); (try clear c10b0); (try clear c11); (try clear c12); (try clear c12b0); (try clear c13); (try clear c13b0); (try clear c14); (try clear c14b0); (try clear hczx69001); (try clear hczx69002); (try clear hczx69003); (try clear hczx69004); (try clear hczx69005); (try clear hczx69006); (try clear hczze1); (try clear hczze2); (try clear hczze3); (try clear hczze4); (try clear hczze5); (try clear hczze6); (try clear hfzx69001); (try clear hfzx69002); (try clear hfzx69003); (try clear hfzx69004); (try clear hfzx69005)
                (try clear hfzx69006); (try clear hfzze1); (try clear hfzze2); (try clear hfzze3); (try clear hfzze4); (try clear hfzze5); (try clear hfzze6); (try clear hx211_0); (try clear hx211_1); (try clear hx211_2); (try clear hx211_3); (try clear hx211_4); (try clear hx211_5); (try clear p2); (try clear p211); (try clear q211)
                obtain ⟨kq, x213004_14, HA, HJ14, HO_9, BK212, HB⟩ := hcut
                cases kq with
                | zero => exact absurd HA.out (by simp [tube_Widen.j2])
                | succ kj14 =>
                 have H := HA.out
                 clear HA
                 simp only [tube_Widen.j2] at H
                 have HC19 := Aside0.mk H
                 clear H
                 go_upto_region 11 with (fail)
                 go_cut [] (fun wc => ∃ (kq : Nat) (x213005_18 : Int), Aside0 (tube_Widen.j3 kq a1 a2 x9_2 l0 (l0.length : Int) x33_2 ((rd_T88 l0 x33_2).f0.f0) ((rd_T88 l0 x33_2).f0.f1.f0) ((rd_T88 l0 x33_2).f0.f1.f1) ((rd_T88 l0 x33_2).f0.f2) x213004_14 x213005_18 = some (r1, r2)) ∧ Aside0 (kq ≤ kj14) ∧ Aside0 (Kd.R k88 88 wc w.heap.size (fun k_ => k_ ≠ gb212) u9 x9_2) ∧ Aside0 (wc.heap[gb212]? = some (.cells #[.int .i64 ((rd_T88 l0 x33_2).f0.f0), .int .i64 ((rd_T88 l0 x33_2).f0.f1.f0), .int .i64 ((rd_T88 l0 x33_2).f0.f1.f1), .int .i64 ((rd_T88 l0 x33_2).f0.f2), .int .i64 x213004_14, .int .i64 x213005_18] 88 (0, 0))) ∧ Aside0 (Below w.heap.size w wc))
                 case first =>
                  have H := HC19.out
                  clear HC19
                  have H' := Aside0.mk H
                  clear H
                  have hczze7 : wc.cell? ⟨gb212, 0, none⟩ = some (.int .i64 ((rd_T88 l0 x33_2).f0.f0)) := (blk_cell BK212.out 0).trans rfl
                  have hczze8 : wc.cell? ⟨gb212, 1, none⟩ = some (.int .i64 ((rd_T88 l0 x33_2).f0.f1.f0)) := (blk_cell BK212.out 1).trans rfl
                  have hczze9 : wc.cell? ⟨gb212, 2, none⟩ = some (.int .i64 ((rd_T88 l0 x33_2).f0.f1.f1)) := (blk_cell BK212.out 2).trans rfl
                  have hczze10 : wc.cell? ⟨gb212, 3, none⟩ = some (.int .i64 ((rd_T88 l0 x33_2).f0.f2)) := (blk_cell BK212.out 3).trans rfl
                  have hczze11 : wc.cell? ⟨gb212, 4, none⟩ = some (.int .i64 x213004_14) := (blk_cell BK212.out 4).trans rfl
                  have hczze12 : wc.cell? ⟨gb212, 5, none⟩ = some (.int .i64 ((rd_T88 l0 x33_2).f2)) := (blk_cell BK212.out 5).trans rfl
                  have hfzze7 := blk_frozen BK212.out 0
                  have hfzze8 := blk_frozen BK212.out 1
                  have hfzze9 := blk_frozen BK212.out 2
                  have hfzze10 := blk_frozen BK212.out 3
                  have hfzze11 := blk_frozen BK212.out 4
                  have hfzze12 := blk_frozen BK212.out 5
                  go_wp2
                  go_meet
                  case rel => exact ⟨_, (wrap64 (((rd_T88 l0 x33_2).f2) + a2)), H', ⟨by have := HJ5.out; have := HK2.out; have := HJ14.out; first | omega | exact Nat.le_refl _⟩, ⟨by (with_reducible repeat (first | apply Kd.R_alloc | apply Kd.R_drewN | apply Kd.R_drew)); exact Kd.R_mono (Kd.R_far (p := ⟨gb212, 5, none⟩) (Kd.R_mono HO_9.out (fun k_ hk => (⟨hk, hk⟩ : _ ∧ k_ ≠ gb212))) (fun _ hk => hk.2) (.int .i64 (wrap64 (((rd_T88 l0 x33_2).f2) + a2)))) (fun _ hk => hk.1)⟩, ⟨by (with_reducible repeat (first | refine blk_drewN ?_ _ | refine blk_drew ?_ | refine blk_alloc ?_ _)); refine blk_put (cs := #[.int .i64 ((rd_T88 l0 x33_2).f0.f0), .int .i64 ((rd_T88 l0 x33_2).f0.f1.f0), .int .i64 ((rd_T88 l0 x33_2).f0.f1.f1), .int .i64 ((rd_T88 l0 x33_2).f0.f2), .int .i64 x213004_14, .int .i64 ((rd_T88 l0 x33_2).f2)]) ?_ 5 _ rfl; (with_reducible repeat (first | refine blk_drewN ?_ _ | refine blk_drew ?_ | refine blk_alloc ?_ _)); exact BK212.out⟩, ⟨by repeat (first | (with_reducible first | exact HB.out | apply below_alloc | apply pw_below_drewN | apply below_drew1 | refine below_set ?_ GE212.out) | exact HB.out)⟩⟩
                 case rest =>
                  clear HC19
                  (try clear c1); (try clear p2); (try clear q2); (try clear hx2); (try clear c3); (try clear c4); (try clear c5); (try clear c5b0); (try clear c5b1); (try clear p6); (try clear c8); (try clear c8b0); (try clear c9); (try clear c9b0); (try clear c10); (try clear c10b0); (try clear c11); (try clear c12); (try clear c12b0); (try clear c13); (try clear c13b0); (try clear c14); (try clear c14b0); (try clear hczx69001); (try clear hczx69002); (try clear hczx69003); (try clear hczx69004); (try clear hczx69005); (try clear hczx69006); (try clear hczze1); (try clear hczze2); (try clear hczze3); (try clear hczze4); (try clear hczze5); (try clear hczze6); (try clear hczze7); (try clear hczze8); (try clear hczze9); (try clear hczze10); (try clear hczze11)
                  (try clear hczze12); (try clear hfzx69001); (try clear hfzx69002); (try clear hfzx69003); (try clear hfzx69004); (try clear hfzx69005); (try clear hfzx69006); (try clear hfzze1); (try clear hfzze2); (try clear hfzze3); (try clear hfzze4); (try clear hfzze5); (try clear hfzze6); (try clear hfzze7); (try clear hfzze8); (try clear hfzze9); (try clear hfzze10); (try clear hfzze11); (try clear hfzze12); (try clear hx211_0); (try clear hx211_1); (try clear hx211_2); (try clear hx211_3); (try clear hx211_4); (try clear hx211_5); (try clear p2); (try clear p211); (try clear p6); (try clear q2); (try clear q211)
                  obtain ⟨kq, x213005_18, HA, HJ18, HO_9, BK212, HB⟩ := hcut
                  cases kq with
                  | zero => exact absurd HA.out (by simp [tube_Widen.j3])
                  | succ kj18 =>
                   have H := HA.out
                   clear HA
                   simp only [tube_Widen.j3] at H
                   by_cases c21 : x9_2.length < 2932031007402
                   · rw [if_pos c21] at H
                     have LMc21 := Aside0.mk c21
                     clear c21
                     obtain ⟨y213, hy213⟩ : ∃ y_ : List (S88), y_ = (x9_2 ++ [(⟨(⟨((rd_T88 l0 x33_2).f0.f0), (⟨((rd_T88 l0 x33_2).f0.f1.f0), ((rd_T88 l0 x33_2).f0.f1.f1)⟩ : S36), ((rd_T88 l0 x33_2).f0.f2)⟩ : S71), x213004_14, x213005_18⟩ : S88)]) := ⟨_, rfl⟩
                     replace H : (tube_Widen.l0 kj18 a1 a2 y213 l0 (l0.length : Int) (wrap64 (x33_2 + 1))) = some (r1, r2) := by first | (rw [hy213]; with_reducible exact H) | (have H2_ := (Option.bind_some _ _).symm.trans H; rw [hy213]; with_reducible exact H2_) | (have H2_ := (Option.bind_some _ _).symm.trans H; with_reducible exact H2_) | with_reducible exact H | (rw [hy213]; exact H) | exact H
                     have Ny213 := Aside0.mk hy213
                     clear hy213
                     have H' := Aside0.mk H
                     clear H
                     have hczzi1 : wc.cell? ⟨gb212, 0, none⟩ = some (.int .i64 ((rd_T88 l0 x33_2).f0.f0)) := (blk_cell BK212.out 0).trans rfl
                     have hczzi2 : wc.cell? ⟨gb212, 1, none⟩ = some (.int .i64 ((rd_T88 l0 x33_2).f0.f1.f0)) := (blk_cell BK212.out 1).trans rfl
                     have hczzi3 : wc.cell? ⟨gb212, 2, none⟩ = some (.int .i64 ((rd_T88 l0 x33_2).f0.f1.f1)) := (blk_cell BK212.out 2).trans rfl
                     have hczzi4 : wc.cell? ⟨gb212, 3, none⟩ = some (.int .i64 ((rd_T88 l0 x33_2).f0.f2)) := (blk_cell BK212.out 3).trans rfl
                     have hczzi5 : wc.cell? ⟨gb212, 4, none⟩ = some (.int .i64 x213004_14) := (blk_cell BK212.out 4).trans rfl
                     have hczzi6 : wc.cell? ⟨gb212, 5, none⟩ = some (.int .i64 x213005_18) := (blk_cell BK212.out 5).trans rfl
                     have hfzzi1 := blk_frozen BK212.out 0
                     have hfzzi2 := blk_frozen BK212.out 1
                     have hfzzi3 := blk_frozen BK212.out 2
                     have hfzzi4 := blk_frozen BK212.out 3
                     have hfzzi5 := blk_frozen BK212.out 4
                     have hfzzi6 := blk_frozen BK212.out 5
                     go_wp2_with (first | ((with_reducible refine gate_builtin (b := .append) (xs := #[.tmp 47, .tmp 49]) rfl ?_); at_builtin; refine Kd.R_append k88 (w0 := w) w.heap.size rfl (.tmp 47) (.tmp 49) 82 88 (.agg #[(.int .i64 0), (.int .i64 0), (.int .i64 0), (.int .i64 0), (.int .i64 0), (.int .i64 0)]) 48 rfl Try.underlying82 info88 rfl (by decide) (by omega) u9 x9_2 (⟨(⟨((rd_T88 l0 x33_2).f0.f0), (⟨((rd_T88 l0 x33_2).f0.f1.f0), ((rd_T88 l0 x33_2).f0.f1.f1)⟩ : S36), ((rd_T88 l0 x33_2).f0.f2)⟩ : S71), x213004_14, x213005_18⟩ : S88) [.int .i64 ((rd_T88 l0 x33_2).f0.f0), .int .i64 ((rd_T88 l0 x33_2).f0.f1.f0), .int .i64 ((rd_T88 l0 x33_2).f0.f1.f1), .int .i64 ((rd_T88 l0 x33_2).f0.f2), .int .i64 x213004_14, .int .i64 x213005_18] (fun k_ => k_ ≠ gb212) (fun _ => False) rfl rfl ?aP (fun _ hk => hk.elim) ?aF ?aO ?aB ?aS ?aL ?_; (case aP => exact k88_mkM _ _ _ (⟨(⟨((rd_T88 l0 x33_2).f0.f0), (⟨((rd_T88 l0 x33_2).f0.f1.f0), ((rd_T88 l0 x33_2).f0.f1.f1)⟩ : S36), ((rd_T88 l0 x33_2).f0.f2)⟩ : S71), x213004_14, x213005_18⟩ : S88)); (case aB => exact (by repeat (first | (with_reducible first | exact HB.out | apply below_alloc | apply pw_below_drewN | apply below_drew1 | refine below_set ?_ GE212.out) | exact HB.out))); (case aF => exact (fun k_ hk => Kd.freshB (g := gb212) (o := .cells #[.int .i64 ((rd_T88 l0 x33_2).f0.f0), .int .i64 ((rd_T88 l0 x33_2).f0.f1.f0), .int .i64 ((rd_T88 l0 x33_2).f0.f1.f1), .int .i64 ((rd_T88 l0 x33_2).f0.f2), .int .i64 x213004_14, .int .i64 x213005_18] 88 (0, 0)) (by (with_reducible repeat (first | refine blk_drewN ?_ _ | refine blk_drew ?_ | refine blk_alloc ?_ _)); exact BK212.out) k_ hk)); (case aO => exact (by (with_reducible repeat (first | apply Kd.R_alloc | apply Kd.R_drewN | apply Kd.R_drew)); exact HO_9.out)); (case aS => exact (below_size (by repeat (first | (with_reducible first | exact HB.out | apply below_alloc | apply pw_below_drewN | apply below_drew1 | refine below_set ?_ GE212.out) | exact HB.out)))); (case aL => have := LMc21.out; omega); intro v214 wxc24b1 ho hb hg hat; rw [← Ny213.out] at ho; have n0_ := Aside0.mk (blk_grown (g := gb212) (o := .cells #[.int .i64 ((rd_T88 l0 x33_2).f0.f0), .int .i64 ((rd_T88 l0 x33_2).f0.f1.f0), .int .i64 ((rd_T88 l0 x33_2).f0.f1.f1), .int .i64 ((rd_T88 l0 x33_2).f0.f2), .int .i64 x213004_14, .int .i64 x213005_18] 88 (0, 0)) (by (with_reducible repeat (first | refine blk_drewN ?_ _ | refine blk_drew ?_ | refine blk_alloc ?_ _)); exact BK212.out) hg (Kd.R_away HO_9.out (fun _ hk => hk))); have n1_ := Aside0.mk (hb); have n2_ := Aside0.mk (ho); clear BK212; clear HB; clear HO_9; have BK212 := n0_; have HB := n1_; have HO215 := n2_; clear n0_ n1_ n2_; clear ho hb hg hat))
                     go_roundg kj18
                     case measure => have := HJ5.out; have := HK2.out; have := HJ14.out; have := HJ18.out; omega
                     case rel => exact ⟨(y213), (wrap64 (x33_2 + 1)), (by first | rfl | (simp; done) | (simp [*]; done)), H', ⟨by have := HJ5.out; have := HK2.out; have := HJ14.out; have := HJ18.out; omega⟩, ⟨by (with_reducible repeat (first | apply Kd.R_alloc | apply Kd.R_drewN | apply Kd.R_drew)); exact Kd.R_mono HO215.out (fun _ hk => trivial)⟩, ⟨by repeat (first | (with_reducible first | exact HB.out | apply below_alloc | apply pw_below_drewN | apply below_drew1 | refine below_set ?_ GE212.out) | exact HB.out)⟩⟩
                   · rw [if_neg c21] at H
                     exact absurd H (by simp)
             | (first | (have _hm := hm7_1) | (have _hm := hm7_2))
               go_wp2_with (first | ((with_reducible refine gate_callee (f := 39) rfl ?_); refine goesL_ (some 53) rfl rfl Try.func39 (by kernel_rfl) rfl #[.slice Aozc1 x9_2.length cozc1] rfl (by (try simp only [List.map_toArray, List.map_cons, List.map_nil]); first | done | rfl | (simp only [List.length_drop, List.length_take]; rfl)) ?_; (with_reducible refine (tube_Check.calls k2 _ _ x9_2 t216 _ ?side1 ?side2 A24.out).mono ?_); (case side1 => repeat (first | exact (Kd.R_reads' HO_9.out).2.2 | (with_reducible refine Kd.C_alloc ?_ _) | (with_reducible refine Kd.C_drewN ?_ _) | (with_reducible refine Kd.C_drew ?_))); (case side2 => exact (Kd.R_reads' HO_9.out).2.1); rintro e wx1d391 ⟨rfl, hb⟩; refine ⟨_, rfl, ?_⟩; have n0_ := Aside0.mk (Kd.R_below (by (with_reducible repeat (first | apply Kd.R_alloc | apply Kd.R_drewN | apply Kd.R_drew)); exact HO_9.out) hb); have n1_ := Aside0.mk (below_step (by repeat (first | (with_reducible first | exact HB.out | apply below_alloc | apply pw_below_drewN | apply below_drew1) | exact HB.out)) hb); clear HO_9; clear HB; have HO_9 := n0_; have HB := n1_; clear n0_ n1_; (try clear hb); (try clear hb2); (try clear hk); (try clear hi)) | ((with_reducible refine gate_callee (f := 39) rfl ?_); refine goesL_ (some 53) rfl rfl Try.func39 (by kernel_rfl) rfl #[.slice Aozc2 x9_2.length cozc2] rfl (by (try simp only [List.map_toArray, List.map_cons, List.map_nil]); first | done | rfl | (simp only [List.length_drop, List.length_take]; rfl)) ?_; (with_reducible refine (tube_Check.calls k2 _ _ x9_2 t216 _ ?side1 ?side2 A24.out).mono ?_); (case side1 => repeat (first | exact (Kd.R_reads' HO_9.out).2.2 | (with_reducible refine Kd.C_alloc ?_ _) | (with_reducible refine Kd.C_drewN ?_ _) | (with_reducible refine Kd.C_drew ?_))); (case side2 => exact (Kd.R_reads' HO_9.out).2.1); rintro e wx85ba1 ⟨rfl, hb⟩; refine ⟨_, rfl, ?_⟩; have n0_ := Aside0.mk (Kd.R_below (by (with_reducible repeat (first | apply Kd.R_alloc | apply Kd.R_drewN | apply Kd.R_drew)); exact HO_9.out) hb); have n1_ := Aside0.mk (below_step (by repeat (first | (with_reducible first | exact HB.out | apply below_alloc | apply pw_below_drewN | apply below_drew1) | exact HB.out)) hb); clear HO_9; clear HB; have HO_9 := n0_; have HB := n1_; clear n0_ n1_; (try clear hb); (try clear hb2); (try clear hk); (try clear hi)))
               go_ret2
               first
                | clear hm7_1
                  exact ⟨_, by first | rfl | (simp [errW_none, errW_some] <;> rfl) | (simp [*, errW_none, errW_some] <;> rfl), by (with_reducible repeat (first | apply Kd.R_alloc | apply Kd.R_drewN | apply Kd.R_drew)); exact HO_9.out, by repeat (first | (with_reducible first | exact HB.out | apply below_alloc | apply pw_below_drewN | apply below_drew1) | exact HB.out)⟩
                | clear hm7_2
                  exact ⟨_, by first | rfl | (simp [errW_none, errW_some] <;> rfl) | (simp [*, errW_none, errW_some] <;> rfl), by first | exact Kd.R_nil _ _ _ _ _ | exact Kd.N_nil _ _ _ _ _ | exact Kd.V_nil _ _ _ _ _ | exact Kd.Q_nil _ _ _ _ _ | exact Kd.S_nil _ _ _ _ _, by repeat (first | (with_reducible first | exact HB.out | apply below_alloc | apply pw_below_drewN | apply below_drew1) | exact HB.out)⟩
   | clear hm1_1
     go_wp2_with (first | ((with_reducible refine gate_callee (f := 39) rfl ?_); refine goesL_ (some 13) rfl rfl Try.func39 (by kernel_rfl) rfl #[.slice A0 l0.length c0] rfl (by (try simp only [List.map_toArray, List.map_cons, List.map_nil]); first | done | rfl | (simp only [List.length_drop, List.length_take]; rfl)) ?_; (with_reducible refine (tube_Check.calls k _ _ l0 t210 _ ?side1 ?side2 A4.out).mono ?_); (case side1 => repeat (first | exact HR0.out | (with_reducible refine Kd.C_alloc ?_ _) | (with_reducible refine Kd.C_drewN ?_ _) | (with_reducible refine Kd.C_drew ?_))); (case side2 => exact HC0.out); rintro e wx34151 ⟨rfl, hb⟩; refine ⟨_, rfl, ?_⟩; have n0_ := Aside0.mk (below_step (by repeat (first | (with_reducible first | exact HB.out | apply below_alloc | apply pw_below_drewN | apply below_drew1) | exact HB.out)) hb); clear HB; have HB := n0_; clear n0_; (try clear hb); (try clear hb2); (try clear hk); (try clear hi)))
     go_ret2
     exact ⟨_, by first | rfl | (simp [errW_none, errW_some] <;> rfl) | (simp [*, errW_none, errW_some] <;> rfl), by first | exact Kd.R_nil _ _ _ _ _ | exact Kd.N_nil _ _ _ _ _ | exact Kd.V_nil _ _ _ _ _ | exact Kd.Q_nil _ _ _ _ _ | exact Kd.S_nil _ _ _ _ _, by repeat (first | (with_reducible first | exact HB.out | apply below_alloc | apply pw_below_drewN | apply below_drew1) | exact HB.out)⟩

/-! ### skywaykeep1_TubeWidens: function 13 -/
def skywaykeep1_TubeWidens.f (k : Nat) (l0 : List (S88)) (a1 : Int) (a2 : Int) (a3 : Int) (a4_0 : Int) (a4_1 : Int) (a5 : Int) : Option (Bool) := (skywaykeep1_tubeWorks.f k).bind fun t218 => (if t218 = true then ((skywaykeep1_long.f k (([l0] : List (List (S88))))).bind fun t222 => (if t222 = true then (some true) else ((tube_Widen.f k l0 a1 a2).bind fun bt223 => (if bt223.2 = 0 then ((tube_Inside.f k l0 bt223.1).bind fun bt227 => ((tube_Has.f k l0 a3 a4_0 a4_1 a5).bind fun bt229 => ((tube_Has.f k bt223.1 a3 a4_0 a4_1 a5).bind fun bt231 => (if bt227.2 = 0 then (if bt227.1 = true then (if bt229.2 = bt231.2 then (if bt229.1 = true then (some bt231.1) else (some true)) else (some false)) else (some false)) else (some false))))) else (some ((bt223.1.length : Int) == 0)))))) else (some false))
theorem skywaykeep1_TubeWidens.mono : ∀ a0 a1 a2 a3 a4 a5 a6 k, LeO (skywaykeep1_TubeWidens.f k a0 a1 a2 a3 a4 a5 a6) (skywaykeep1_TubeWidens.f (k + 1) a0 a1 a2 a3 a4 a5 a6) := by
  intro a0 a1 a2 a3 a4 a5 a6 k
  unfold skywaykeep1_TubeWidens.f
  repeat' first
      | (with_reducible exact skywaykeep1_long.mono _ _)
      | (with_reducible exact skywaykeep1_tubeWorks.mono _)
      | (with_reducible exact tube_Has.mono _ _ _ _ _ _)
      | (with_reducible exact tube_Inside.mono _ _ _)
      | (with_reducible exact tube_Widen.mono _ _ _ _)
      | (with_reducible exact LeO.refl _)
      | (with_reducible exact LeO.none _)
      | (with_reducible refine LeO.ite ?_ ?_)
      | (with_reducible refine LeO.bind ?_ (fun _ => ?_))
      | exact skywaykeep1_long.mono _ _
      | exact skywaykeep1_tubeWorks.mono _
      | exact tube_Has.mono _ _ _ _ _ _
      | exact tube_Inside.mono _ _ _
      | exact tube_Widen.mono _ _ _ _
      | exact LeO.none _
      | refine LeO.ite ?_ ?_
      | refine LeO.bind ?_ (fun _ => ?_)
set_option maxHeartbeats 8000000 in
set_option maxRecDepth 100000 in
theorem skywaykeep1_TubeWidens.calls (k : Nat) (P0_ : Nat → Prop) (A0 : Option Addr) (c0 : Nat) (l0 : List (S88)) (a1 : Int) (a2 : Int) (a3 : Int) (a4_0 : Int) (a4_1 : Int) (a5 : Int) (r : Bool) (w : World) (hs0 : Kd.V k88 88 w w.heap.size (fun k_ => P0_ k_) (.slice A0 l0.length c0) l0) (h : skywaykeep1_TubeWidens.f k l0 a1 a2 a3 a4_0 a4_1 a5 = some r) :
    Calls Try.prog 13 #[.slice A0 l0.length c0, .int .i64 a1, .int .i64 a2, .int .i64 a3, .agg #[.int .i64 a4_0, .int .i64 a4_1], .int .i64 a5] w fun e w' => e = .returned (.bool r) ∧ Below w.heap.size w w' := by
 have hu36 := Try.underlying36
 have HO0 := Aside0.mk (show Kd.V k88 88 w w.heap.size (fun k_ => (P0_ k_ ∨ w.heap.size ≤ k_)) (.slice A0 l0.length c0) l0 from Kd.V_mono hs0 (fun k_ hk => .inl hk))
 have HB := Aside0.mk (Below.refl w.heap.size w)
 have H : ((skywaykeep1_tubeWorks.f k).bind fun t218 => (if t218 = true then ((skywaykeep1_long.f k (([l0] : List (List (S88))))).bind fun t222 => (if t222 = true then (some true) else ((tube_Widen.f k l0 a1 a2).bind fun bt223 => (if bt223.2 = 0 then ((tube_Inside.f k l0 bt223.1).bind fun bt227 => ((tube_Has.f k l0 a3 a4_0 a4_1 a5).bind fun bt229 => ((tube_Has.f k bt223.1 a3 a4_0 a4_1 a5).bind fun bt231 => (if bt227.2 = 0 then (if bt227.1 = true then (if bt229.2 = bt231.2 then (if bt229.1 = true then (some bt231.1) else (some true)) else (some false)) else (some false)) else (some false))))) else (some ((bt223.1.length : Int) == 0)))))) else (some false))) = some r := h
 clear h
 replace H := Option.bind_eq_some_iff.mp H
 obtain ⟨t218, A70, H⟩ := H
 replace H : (if t218 = true then ((skywaykeep1_long.f k (([l0] : List (List (S88))))).bind fun t222 => (if t222 = true then (some true) else ((tube_Widen.f k l0 a1 a2).bind fun bt223 => (if bt223.2 = 0 then ((tube_Inside.f k l0 bt223.1).bind fun bt227 => ((tube_Has.f k l0 a3 a4_0 a4_1 a5).bind fun bt229 => ((tube_Has.f k bt223.1 a3 a4_0 a4_1 a5).bind fun bt231 => (if bt227.2 = 0 then (if bt227.1 = true then (if bt229.2 = bt231.2 then (if bt229.1 = true then (some bt231.1) else (some true)) else (some false)) else (some false)) else (some false))))) else (some ((bt223.1.length : Int) == 0)))))) else (some false)) = some r := H
 have A7 := Aside0.mk A70
 clear A70
 refine Or.elim (Classical.em (t218 = true)) (fun c8 => ?p2_) (fun c8 => ?n2_)
 case' p2_ =>
  subst c8
  have H1 : ((skywaykeep1_long.f k (([l0] : List (List (S88))))).bind fun t222 => (if t222 = true then (some true) else ((tube_Widen.f k l0 a1 a2).bind fun bt223 => (if bt223.2 = 0 then ((tube_Inside.f k l0 bt223.1).bind fun bt227 => ((tube_Has.f k l0 a3 a4_0 a4_1 a5).bind fun bt229 => ((tube_Has.f k bt223.1 a3 a4_0 a4_1 a5).bind fun bt231 => (if bt227.2 = 0 then (if bt227.1 = true then (if bt229.2 = bt231.2 then (if bt229.1 = true then (some bt231.1) else (some true)) else (some false)) else (some false)) else (some false))))) else (some ((bt223.1.length : Int) == 0)))))) = some r := by rw [if_pos rfl] at H; exact H
  clear H
  have H := H1
  clear H1
  obtain ⟨y219, hy219⟩ : ∃ y_ : List (List (S88)), y_ = (([l0] : List (List (S88)))) := ⟨_, rfl⟩
  replace H : ((skywaykeep1_long.f k y219).bind fun t222 => (if t222 = true then (some true) else ((tube_Widen.f k l0 a1 a2).bind fun bt223 => (if bt223.2 = 0 then ((tube_Inside.f k l0 bt223.1).bind fun bt227 => ((tube_Has.f k l0 a3 a4_0 a4_1 a5).bind fun bt229 => ((tube_Has.f k bt223.1 a3 a4_0 a4_1 a5).bind fun bt231 => (if bt227.2 = 0 then (if bt227.1 = true then (if bt229.2 = bt231.2 then (if bt229.1 = true then (some bt231.1) else (some true)) else (some false)) else (some false)) else (some false))))) else (some ((bt223.1.length : Int) == 0)))))) = some r := by first | (rw [hy219]; with_reducible exact H) | (have H2_ := (Option.bind_some _ _).symm.trans H; rw [hy219]; with_reducible exact H2_) | (have H2_ := (Option.bind_some _ _).symm.trans H; with_reducible exact H2_) | with_reducible exact H | (rw [hy219]; exact H) | exact H
  have Ny219 := Aside0.mk hy219
  clear hy219
  replace H := Option.bind_eq_some_iff.mp H
  obtain ⟨t222, A90, H⟩ := H
  replace H : (if t222 = true then (some true) else ((tube_Widen.f k l0 a1 a2).bind fun bt223 => (if bt223.2 = 0 then ((tube_Inside.f k l0 bt223.1).bind fun bt227 => ((tube_Has.f k l0 a3 a4_0 a4_1 a5).bind fun bt229 => ((tube_Has.f k bt223.1 a3 a4_0 a4_1 a5).bind fun bt231 => (if bt227.2 = 0 then (if bt227.1 = true then (if bt229.2 = bt231.2 then (if bt229.1 = true then (some bt231.1) else (some true)) else (some false)) else (some false)) else (some false))))) else (some ((bt223.1.length : Int) == 0))))) = some r := H
  have A9 := Aside0.mk A90
  clear A90
  refine Or.elim (Classical.em (t222 = true)) (fun c10 => ?p3_) (fun c10 => ?n3_)
  case' p3_ =>
   subst c10
   have H1 : (some true) = some r := by rw [if_pos rfl] at H; exact H
   clear H
   have H := H1
   clear H1
  case' n3_ =>
   replace c10 := Bool.eq_false_iff.mpr c10
   subst c10
   have H1 : ((tube_Widen.f k l0 a1 a2).bind fun bt223 => (if bt223.2 = 0 then ((tube_Inside.f k l0 bt223.1).bind fun bt227 => ((tube_Has.f k l0 a3 a4_0 a4_1 a5).bind fun bt229 => ((tube_Has.f k bt223.1 a3 a4_0 a4_1 a5).bind fun bt231 => (if bt227.2 = 0 then (if bt227.1 = true then (if bt229.2 = bt231.2 then (if bt229.1 = true then (some bt231.1) else (some true)) else (some false)) else (some false)) else (some false))))) else (some ((bt223.1.length : Int) == 0)))) = some r := by rw [if_neg (show ¬ (false = true) by decide)] at H; exact H
   clear H
   have H := H1
   clear H1
   replace H := Option.bind_eq_some_iff.mp H
   obtain ⟨⟨t223, t224⟩, A170, H⟩ := H
   replace H : (if t224 = 0 then ((tube_Inside.f k l0 t223).bind fun bt227 => ((tube_Has.f k l0 a3 a4_0 a4_1 a5).bind fun bt229 => ((tube_Has.f k t223 a3 a4_0 a4_1 a5).bind fun bt231 => (if bt227.2 = 0 then (if bt227.1 = true then (if bt229.2 = bt231.2 then (if bt229.1 = true then (some bt231.1) else (some true)) else (some false)) else (some false)) else (some false))))) else (some ((t223.length : Int) == 0))) = some r := H
   have A17 := Aside0.mk A170
   clear A170
   refine Or.elim (Classical.em (t224 = 0)) (fun c18 => ?p4_) (fun c18 => ?n4_)
   case' p4_ =>
    rw [if_pos c18] at H
    have c18b0 : (t224 == 0) = true := beq_iff_eq.mpr c18
    have c18b1 : (t224 != 0) = false := bne_eq_false_iff_eq.mpr c18
    clear c18
    replace H := Option.bind_eq_some_iff.mp H
    obtain ⟨⟨t227, t228⟩, A190, H⟩ := H
    replace H : ((tube_Has.f k l0 a3 a4_0 a4_1 a5).bind fun bt229 => ((tube_Has.f k t223 a3 a4_0 a4_1 a5).bind fun bt231 => (if t228 = 0 then (if t227 = true then (if bt229.2 = bt231.2 then (if bt229.1 = true then (some bt231.1) else (some true)) else (some false)) else (some false)) else (some false)))) = some r := H
    have A19 := Aside0.mk A190
    clear A190
    replace H := Option.bind_eq_some_iff.mp H
    obtain ⟨⟨t229, t230⟩, A200, H⟩ := H
    replace H : ((tube_Has.f k t223 a3 a4_0 a4_1 a5).bind fun bt231 => (if t228 = 0 then (if t227 = true then (if t230 = bt231.2 then (if t229 = true then (some bt231.1) else (some true)) else (some false)) else (some false)) else (some false))) = some r := H
    have A20 := Aside0.mk A200
    clear A200
    replace H := Option.bind_eq_some_iff.mp H
    obtain ⟨⟨t231, t232⟩, A210, H⟩ := H
    replace H : (if t228 = 0 then (if t227 = true then (if t230 = t232 then (if t229 = true then (some t231) else (some true)) else (some false)) else (some false)) else (some false)) = some r := H
    have A21 := Aside0.mk A210
    clear A210
    refine Or.elim (Classical.em (t228 = 0)) (fun c22 => ?p5_) (fun c22 => ?n5_)
    case' p5_ =>
     rw [if_pos c22] at H
     have c22b0 : (t228 == 0) = true := beq_iff_eq.mpr c22
     have c22b1 : (t228 != 0) = false := bne_eq_false_iff_eq.mpr c22
     clear c22
     refine Or.elim (Classical.em (t227 = true)) (fun c23 => ?p6_) (fun c23 => ?n6_)
     case' p6_ =>
      subst c23
      have H1 : (if t230 = t232 then (if t229 = true then (some t231) else (some true)) else (some false)) = some r := by rw [if_pos rfl] at H; exact H
      clear H
      have H := H1
      clear H1
      refine Or.elim (Classical.em (t230 = t232)) (fun c24 => ?p7_) (fun c24 => ?n7_)
      case' p7_ =>
       rw [if_pos c24] at H
       have c24b0 : (t230 == t232) = true := beq_iff_eq.mpr c24
       have c24b1 : (t230 != t232) = false := bne_eq_false_iff_eq.mpr c24
       clear c24
       refine Or.elim (Classical.em (t229 = true)) (fun c25 => ?p8_) (fun c25 => ?n8_)
       case' p8_ =>
        subst c25
        have H1 : (some t231) = some r := by rw [if_pos rfl] at H; exact H
        clear H
        have H := H1
        clear H1
       case' n8_ =>
        replace c25 := Bool.eq_false_iff.mpr c25
        subst c25
        have H1 : (some true) = some r := by rw [if_neg (show ¬ (false = true) by decide)] at H; exact H
        clear H
        have H := H1
        clear H1
      case' n7_ =>
       rw [if_neg c24] at H
       have c24b0 : (t230 == t232) = false := beq_eq_false_iff_ne.mpr c24
       have c24b1 : (t230 != t232) = true := bne_iff_ne.mpr c24
     case' n6_ =>
      replace c23 := Bool.eq_false_iff.mpr c23
      subst c23
      have H1 : (some false) = some r := by rw [if_neg (show ¬ (false = true) by decide)] at H; exact H
      clear H
      have H := H1
      clear H1
    case' n5_ =>
     rw [if_neg c22] at H
     have c22b0 : (t228 == 0) = false := beq_eq_false_iff_ne.mpr c22
     have c22b1 : (t228 != 0) = true := bne_iff_ne.mpr c22
   case' n4_ =>
    rw [if_neg c18] at H
    have c18b0 : (t224 == 0) = false := beq_eq_false_iff_ne.mpr c18
    have c18b1 : (t224 != 0) = true := bne_iff_ne.mpr c18
 case' n2_ =>
  replace c8 := Bool.eq_false_iff.mpr c8
  subst c8
  have H1 : (some false) = some r := by rw [if_neg (show ¬ (false = true) by decide)] at H; exact H
  clear H
  have H := H1
  clear H1
 all_goals
  obtain rfl := Option.some.inj H
  go_enter Try.func13, Try.ntmps13
  go_wp2_with (first | ((with_reducible refine gate_dst (N := 10) rfl ?_); refine box_event ?hg (N := 10) ?hd (cs := #[.int .i64 a4_0, .int .i64 a4_1]) (t := 36) ?hr ?_; (case hd => rfl); (case hg => rfl); (case hr => first | (go_simp; done) | (go_simp; rfl)); intro gb217 hg wx744d1 hbox hb; have n0_ := Aside0.mk (Kd.V_below (Kd.V_elderB (by (with_reducible repeat (first | apply Kd.V_alloc | apply Kd.V_drewN | apply Kd.V_drew)); exact HO0.out) gb217 (Nat.le_of_eq hg.symm)) hb); have n1_ := Aside0.mk (below_step (by repeat (first | (with_reducible first | exact HB.out | apply below_alloc | apply pw_below_drewN | apply below_drew1) | exact HB.out)) hb); have n2_ := Aside0.mk (hbox); have n3_ := Aside0.mk ((by rw [hg]; exact (below_size (by repeat (first | (with_reducible first | exact HB.out | apply below_alloc | apply pw_below_drewN | apply below_drew1) | exact HB.out))) : w.heap.size ≤ gb217)); have n4_ := Aside0.mk ((by rw [hg]; exact (below_size (by repeat (first | (with_reducible first | exact HB.out | apply below_alloc | apply pw_below_drewN | apply below_drew1) | exact HB.out))) : w.heap.size ≤ gb217)); clear HO0; clear HB; have HO0 := n0_; have HB := n1_; have BK217 := n2_; have GW217 := n3_; have GE217 := n4_; clear n0_ n1_ n2_ n3_ n4_; clear hb hbox hg) | ((with_reducible refine gate_callee (f := 35) rfl ?_); refine goesL_ (some 21) rfl rfl Try.func35 (by kernel_rfl) rfl #[] rfl (by (try simp only [List.map_toArray, List.map_cons, List.map_nil]); first | done | rfl | (simp only [List.length_drop, List.length_take]; rfl)) ?_; (with_reducible refine (skywaykeep1_tubeWorks.calls k  false _ A7.out).mono ?_); rintro e wxa61d1 ⟨rfl, hb⟩; refine ⟨_, rfl, ?_⟩; have n0_ := Aside0.mk (Kd.V_below (by (with_reducible repeat (first | apply Kd.V_alloc | apply Kd.V_drewN | apply Kd.V_drew)); exact HO0.out) hb); have n1_ := Aside0.mk (blk_below (g := gb217) (o := .cells #[.int .i64 a4_0, .int .i64 a4_1] 36 (0, 0)) (by (with_reducible repeat (first | refine blk_drewN ?_ _ | refine blk_drew ?_ | refine blk_alloc ?_ _)); exact BK217.out) hb); have n2_ := Aside0.mk (below_step (by repeat (first | (with_reducible first | exact HB.out | apply below_alloc | apply pw_below_drewN | apply below_drew1 | refine below_set ?_ GE217.out) | exact HB.out)) hb); clear HO0; clear BK217; clear HB; have HO0 := n0_; have BK217 := n1_; have HB := n2_; clear n0_ n1_ n2_; (try clear hb); (try clear hb2); (try clear hk); (try clear hi)) | ((with_reducible refine gate_callee (f := 35) rfl ?_); refine goesL_ (some 21) rfl rfl Try.func35 (by kernel_rfl) rfl #[] rfl (by (try simp only [List.map_toArray, List.map_cons, List.map_nil]); first | done | rfl | (simp only [List.length_drop, List.length_take]; rfl)) ?_; (with_reducible refine (skywaykeep1_tubeWorks.calls k  true _ A7.out).mono ?_); rintro e wx278d1 ⟨rfl, hb⟩; refine ⟨_, rfl, ?_⟩; have n0_ := Aside0.mk (Kd.V_below (by (with_reducible repeat (first | apply Kd.V_alloc | apply Kd.V_drewN | apply Kd.V_drew)); exact HO0.out) hb); have n1_ := Aside0.mk (blk_below (g := gb217) (o := .cells #[.int .i64 a4_0, .int .i64 a4_1] 36 (0, 0)) (by (with_reducible repeat (first | refine blk_drewN ?_ _ | refine blk_drew ?_ | refine blk_alloc ?_ _)); exact BK217.out) hb); have n2_ := Aside0.mk (below_step (by repeat (first | (with_reducible first | exact HB.out | apply below_alloc | apply pw_below_drewN | apply below_drew1 | refine below_set ?_ GE217.out) | exact HB.out)) hb); clear HO0; clear BK217; clear HB; have HO0 := n0_; have BK217 := n1_; have HB := n2_; clear n0_ n1_ n2_; (try clear hb); (try clear hb2); (try clear hk); (try clear hi)) | ((with_reducible refine gate_dst (N := 24) rfl ?_); refine Kd.N_lit (Kd.slice 88 k88) _ 82 ?hg (N' := 24) ?hd (xs := ([l0] : List (List (S88)))) (inner := [.slice A0 l0.length c0]) (ok := (fun k_ => (P0_ k_ ∨ w.heap.size ≤ k_) ∧ k_ ≠ gb217)) (okp := (fun k_ => (P0_ k_ ∨ w.heap.size ≤ k_) ∧ k_ ≠ gb217)) ?hr ?hp (fun _ hk => hk) ((show ∀ k_, wx278d1.heap.size ≤ k_ → (fun k_ => (P0_ k_ ∨ w.heap.size ≤ k_) ∧ k_ ≠ gb217) k_ from fun k_ hk => ⟨(.inr (Nat.le_trans (below_size (by repeat (first | (with_reducible first | exact HB.out | apply below_alloc | apply pw_below_drewN | apply below_drew1 | refine below_set ?_ GE217.out) | exact HB.out))) hk)), Kd.freshB (g := gb217) (o := .cells #[.int .i64 a4_0, .int .i64 a4_1] 36 (0, 0)) (by (with_reducible repeat (first | refine blk_drewN ?_ _ | refine blk_drew ?_ | refine blk_alloc ?_ _)); exact BK217.out) k_ hk⟩) _ (Nat.le_refl _)) (Below.refl _ _) (Nat.le_refl _) (by simp) ?_; (case hd => rfl); (case hg => rfl); (case hr => first | (go_simp; done) | (go_simp; rfl)); (case hp => exact (Reps.one (show Kd.FK (Kd.slice 88 k88) _ _ l0 [.slice A0 l0.length c0] from (Kd.FK_slice_mk (Kd.V_reads' (Kd.V_mono (ok' := (fun k_ => (P0_ k_ ∨ w.heap.size ≤ k_) ∧ k_ ≠ gb217)) (HO0.out) (fun k_ hk => ⟨hk.1, hk.2⟩))).2.1 (Kd.V_F (Kd.V_mono (ok' := (fun k_ => (P0_ k_ ∨ w.heap.size ≤ k_) ∧ k_ ≠ gb217)) (HO0.out) (fun k_ hk => ⟨hk.1, hk.2⟩))))) (Reps.none _ _))); intro v220 wxa1ac1 hoxa1ac1 hb hg_ hnew_; clear hg_ hnew_; (first | rw [← Ny219.out] at hoxa1ac1 | (simp only [Int.reduceToNat] at hoxa1ac1; rw [← Ny219.out] at hoxa1ac1)); have n0_ := Aside0.mk (Kd.V_elder' (by (with_reducible repeat (first | apply Kd.V_alloc | apply Kd.V_drewN | apply Kd.V_drew)); exact HO0.out) (Kd.N_base hoxa1ac1) hb); have n1_ := Aside0.mk (Kd.N_lower hoxa1ac1 (below_size (by repeat (first | (with_reducible first | exact HB.out | apply below_alloc | apply pw_below_drewN | apply below_drew1 | refine below_set ?_ GE217.out) | exact HB.out)))); have n2_ := Aside0.mk (blk_below (g := gb217) (o := .cells #[.int .i64 a4_0, .int .i64 a4_1] 36 (0, 0)) (by (with_reducible repeat (first | refine blk_drewN ?_ _ | refine blk_drew ?_ | refine blk_alloc ?_ _)); exact BK217.out) hb); have n3_ := Aside0.mk (below_step (by repeat (first | (with_reducible first | exact HB.out | apply below_alloc | apply pw_below_drewN | apply below_drew1 | refine below_set ?_ GE217.out) | exact HB.out)) hb); clear HO0; clear BK217; clear HB; have HO0 := n0_; have HO221 := n1_; have BK217 := n2_; have HB := n3_; clear n0_ n1_ n2_ n3_; clear hb hoxa1ac1; obtain ⟨Aoxa1ac1, coxa1ac1, eoxa1ac1⟩ := Kd.N_slice HO221.out; subst eoxa1ac1) | ((with_reducible refine gate_callee (f := 36) rfl ?_); refine goesL_ (some 25) rfl rfl Try.func36 (by kernel_rfl) rfl #[.slice Aoxa1ac1 y219.length coxa1ac1] rfl (by (try simp only [List.map_toArray, List.map_cons, List.map_nil]); first | done | rfl | (simp only [List.length_drop, List.length_take]; rfl)) ?_; (with_reducible refine (skywaykeep1_long.calls k _ _ y219 false _ ?side1 ?side2 A9.out).mono ?_); (case side1 => repeat (first | exact (Kd.N_reads' HO221.out).2.2 | (with_reducible refine Kd.C_alloc ?_ _) | (with_reducible refine Kd.C_drewN ?_ _) | (with_reducible refine Kd.C_drew ?_))); (case side2 => exact (Kd.N_reads' HO221.out).2.1); rintro e wx000c1 ⟨rfl, hb⟩; refine ⟨_, rfl, ?_⟩; have n0_ := Aside0.mk (Kd.V_below (by (with_reducible repeat (first | apply Kd.V_alloc | apply Kd.V_drewN | apply Kd.V_drew)); exact HO0.out) hb); have n1_ := Aside0.mk (Kd.N_below (by (with_reducible repeat (first | apply Kd.N_alloc | apply Kd.N_drewN | apply Kd.N_drew)); exact HO221.out) hb); have n2_ := Aside0.mk (blk_below (g := gb217) (o := .cells #[.int .i64 a4_0, .int .i64 a4_1] 36 (0, 0)) (by (with_reducible repeat (first | refine blk_drewN ?_ _ | refine blk_drew ?_ | refine blk_alloc ?_ _)); exact BK217.out) hb); have n3_ := Aside0.mk (below_step (by repeat (first | (with_reducible first | exact HB.out | apply below_alloc | apply pw_below_drewN | apply below_drew1 | refine below_set ?_ GE217.out) | exact HB.out)) hb); clear HO0; clear HO221; clear BK217; clear HB; have HO0 := n0_; have HO221 := n1_; have BK217 := n2_; have HB := n3_; clear n0_ n1_ n2_ n3_; (try clear hb); (try clear hb2); (try clear hk); (try clear hi)) | ((with_reducible refine gate_callee (f := 36) rfl ?_); refine goesL_ (some 25) rfl rfl Try.func36 (by kernel_rfl) rfl #[.slice Aoxa1ac1 y219.length coxa1ac1] rfl (by (try simp only [List.map_toArray, List.map_cons, List.map_nil]); first | done | rfl | (simp only [List.length_drop, List.length_take]; rfl)) ?_; (with_reducible refine (skywaykeep1_long.calls k _ _ y219 true _ ?side1 ?side2 A9.out).mono ?_); (case side1 => repeat (first | exact (Kd.N_reads' HO221.out).2.2 | (with_reducible refine Kd.C_alloc ?_ _) | (with_reducible refine Kd.C_drewN ?_ _) | (with_reducible refine Kd.C_drew ?_))); (case side2 => exact (Kd.N_reads' HO221.out).2.1); rintro e wxfdea1 ⟨rfl, hb⟩; refine ⟨_, rfl, ?_⟩; have n0_ := Aside0.mk (Kd.V_below (by (with_reducible repeat (first | apply Kd.V_alloc | apply Kd.V_drewN | apply Kd.V_drew)); exact HO0.out) hb); have n1_ := Aside0.mk (Kd.N_below (by (with_reducible repeat (first | apply Kd.N_alloc | apply Kd.N_drewN | apply Kd.N_drew)); exact HO221.out) hb); have n2_ := Aside0.mk (blk_below (g := gb217) (o := .cells #[.int .i64 a4_0, .int .i64 a4_1] 36 (0, 0)) (by (with_reducible repeat (first | refine blk_drewN ?_ _ | refine blk_drew ?_ | refine blk_alloc ?_ _)); exact BK217.out) hb); have n3_ := Aside0.mk (below_step (by repeat (first | (with_reducible first | exact HB.out | apply below_alloc | apply pw_below_drewN | apply below_drew1 | refine below_set ?_ GE217.out) | exact HB.out)) hb); clear HO0; clear HO221; clear BK217; clear HB; have HO0 := n0_; have HO221 := n1_; have BK217 := n2_; have HB := n3_; clear n0_ n1_ n2_ n3_; (try clear hb); (try clear hb2); (try clear hk); (try clear hi)) | ((with_reducible refine gate_callee (f := 42) rfl ?_); refine goesL_ (some 30) rfl rfl Try.func42 (by kernel_rfl) rfl #[.slice A0 l0.length c0, .int .i64 a1, .int .i64 a2] rfl (by (try simp only [List.map_toArray, List.map_cons, List.map_nil]); first | done | rfl | (simp only [List.length_drop, List.length_take]; rfl)) ?_; (with_reducible refine (tube_Widen.calls k _ _ l0 a1 a2 t223 t224 _ ?side1 ?side2 A17.out).mono ?_); (case side1 => repeat (first | exact (Kd.V_reads' HO0.out).2.2 | (with_reducible refine Kd.C_alloc ?_ _) | (with_reducible refine Kd.C_drewN ?_ _) | (with_reducible refine Kd.C_drew ?_))); (case side2 => exact (Kd.V_reads' HO0.out).2.1); rintro e wxbd451 ⟨v225, rfl, hoxbd451, hb⟩; refine ⟨_, rfl, ?_⟩; have n0_ := Aside0.mk (Kd.V_elder' (by (with_reducible repeat (first | apply Kd.V_alloc | apply Kd.V_drewN | apply Kd.V_drew)); exact HO0.out) (Kd.R_base hoxbd451) hb); have n1_ := Aside0.mk (Kd.N_elder' (by (with_reducible repeat (first | apply Kd.N_alloc | apply Kd.N_drewN | apply Kd.N_drew)); exact HO221.out) (Kd.R_base hoxbd451) hb); have n2_ := Aside0.mk (Kd.R_lower (Kd.R_newM (M := fun k_ => (w.heap.size ≤ k_)) hoxbd451 (below_size (by repeat (first | (with_reducible first | exact HB.out | apply below_alloc | apply pw_below_drewN | apply below_drew1 | refine below_set ?_ GE217.out) | exact HB.out))) (fun k_ h_ => h_)) (below_size (by repeat (first | (with_reducible first | exact HB.out | apply below_alloc | apply pw_below_drewN | apply below_drew1 | refine below_set ?_ GE217.out) | exact HB.out)))); have n3_ := Aside0.mk (blk_below (g := gb217) (o := .cells #[.int .i64 a4_0, .int .i64 a4_1] 36 (0, 0)) (by (with_reducible repeat (first | refine blk_drewN ?_ _ | refine blk_drew ?_ | refine blk_alloc ?_ _)); exact BK217.out) hb); have n4_ := Aside0.mk (below_step (by repeat (first | (with_reducible first | exact HB.out | apply below_alloc | apply pw_below_drewN | apply below_drew1 | refine below_set ?_ GE217.out) | exact HB.out)) hb); clear HO0; clear HO221; clear BK217; clear HB; have HO0 := n0_; have HO221 := n1_; have HO226 := n2_; have BK217 := n3_; have HB := n4_; clear n0_ n1_ n2_ n3_ n4_; (try clear hb); (try clear hb2); (try clear hk); (try clear hi); (try clear hoxbd451); obtain ⟨Aoxbd451, coxbd451, eoxbd451⟩ := Kd.R_slice HO226.out; subst eoxbd451) | ((with_reducible refine gate_callee (f := 40) rfl ?_); refine goesL_ (some 41) rfl rfl Try.func40 (by kernel_rfl) rfl #[.slice A0 l0.length c0, .slice Aoxbd451 t223.length coxbd451] rfl (by (try simp only [List.map_toArray, List.map_cons, List.map_nil]); first | done | rfl | (simp only [List.length_drop, List.length_take]; rfl)) ?_; (with_reducible refine (tube_Inside.calls k _ _ l0 _ _ t223 false t228 _ ?side1 ?side2 ?side3 ?side4 A19.out).mono ?_); (case side1 => repeat (first | exact (Kd.V_reads' HO0.out).2.2 | (with_reducible refine Kd.C_alloc ?_ _) | (with_reducible refine Kd.C_drewN ?_ _) | (with_reducible refine Kd.C_drew ?_))); (case side2 => exact (Kd.V_reads' HO0.out).2.1); (case side3 => repeat (first | exact (Kd.R_reads' HO226.out).2.2 | (with_reducible refine Kd.C_alloc ?_ _) | (with_reducible refine Kd.C_drewN ?_ _) | (with_reducible refine Kd.C_drew ?_))); (case side4 => exact (Kd.R_reads' HO226.out).2.1); rintro e wxebb41 ⟨rfl, hb⟩; refine ⟨_, rfl, ?_⟩; have n0_ := Aside0.mk (Kd.V_below (by (with_reducible repeat (first | apply Kd.V_alloc | apply Kd.V_drewN | apply Kd.V_drew)); exact HO0.out) hb); have n1_ := Aside0.mk (Kd.N_below (by (with_reducible repeat (first | apply Kd.N_alloc | apply Kd.N_drewN | apply Kd.N_drew)); exact HO221.out) hb); have n2_ := Aside0.mk (Kd.R_below (by (with_reducible repeat (first | apply Kd.R_alloc | apply Kd.R_drewN | apply Kd.R_drew)); exact HO226.out) hb); have n3_ := Aside0.mk (blk_below (g := gb217) (o := .cells #[.int .i64 a4_0, .int .i64 a4_1] 36 (0, 0)) (by (with_reducible repeat (first | refine blk_drewN ?_ _ | refine blk_drew ?_ | refine blk_alloc ?_ _)); exact BK217.out) hb); have n4_ := Aside0.mk (below_step (by repeat (first | (with_reducible first | exact HB.out | apply below_alloc | apply pw_below_drewN | apply below_drew1 | refine below_set ?_ GE217.out) | exact HB.out)) hb); clear HO0; clear HO221; clear HO226; clear BK217; clear HB; have HO0 := n0_; have HO221 := n1_; have HO226 := n2_; have BK217 := n3_; have HB := n4_; clear n0_ n1_ n2_ n3_ n4_; (try clear hb); (try clear hb2); (try clear hk); (try clear hi); have hczxebb41 : wxebb41.cell? ⟨gb217, 0, none⟩ = some (.int .i64 a4_0) := (blk_cell BK217.out 0).trans rfl; have hczxebb42 : wxebb41.cell? ⟨gb217, 1, none⟩ = some (.int .i64 a4_1) := (blk_cell BK217.out 1).trans rfl; have hfzxebb41 := blk_frozen BK217.out 0; have hfzxebb42 := blk_frozen BK217.out 1) | ((with_reducible refine gate_callee (f := 40) rfl ?_); refine goesL_ (some 41) rfl rfl Try.func40 (by kernel_rfl) rfl #[.slice A0 l0.length c0, .slice Aoxbd451 t223.length coxbd451] rfl (by (try simp only [List.map_toArray, List.map_cons, List.map_nil]); first | done | rfl | (simp only [List.length_drop, List.length_take]; rfl)) ?_; (with_reducible refine (tube_Inside.calls k _ _ l0 _ _ t223 true t228 _ ?side1 ?side2 ?side3 ?side4 A19.out).mono ?_); (case side1 => repeat (first | exact (Kd.V_reads' HO0.out).2.2 | (with_reducible refine Kd.C_alloc ?_ _) | (with_reducible refine Kd.C_drewN ?_ _) | (with_reducible refine Kd.C_drew ?_))); (case side2 => exact (Kd.V_reads' HO0.out).2.1); (case side3 => repeat (first | exact (Kd.R_reads' HO226.out).2.2 | (with_reducible refine Kd.C_alloc ?_ _) | (with_reducible refine Kd.C_drewN ?_ _) | (with_reducible refine Kd.C_drew ?_))); (case side4 => exact (Kd.R_reads' HO226.out).2.1); rintro e wx7df51 ⟨rfl, hb⟩; refine ⟨_, rfl, ?_⟩; have n0_ := Aside0.mk (Kd.V_below (by (with_reducible repeat (first | apply Kd.V_alloc | apply Kd.V_drewN | apply Kd.V_drew)); exact HO0.out) hb); have n1_ := Aside0.mk (Kd.N_below (by (with_reducible repeat (first | apply Kd.N_alloc | apply Kd.N_drewN | apply Kd.N_drew)); exact HO221.out) hb); have n2_ := Aside0.mk (Kd.R_below (by (with_reducible repeat (first | apply Kd.R_alloc | apply Kd.R_drewN | apply Kd.R_drew)); exact HO226.out) hb); have n3_ := Aside0.mk (blk_below (g := gb217) (o := .cells #[.int .i64 a4_0, .int .i64 a4_1] 36 (0, 0)) (by (with_reducible repeat (first | refine blk_drewN ?_ _ | refine blk_drew ?_ | refine blk_alloc ?_ _)); exact BK217.out) hb); have n4_ := Aside0.mk (below_step (by repeat (first | (with_reducible first | exact HB.out | apply below_alloc | apply pw_below_drewN | apply below_drew1 | refine below_set ?_ GE217.out) | exact HB.out)) hb); clear HO0; clear HO221; clear HO226; clear BK217; clear HB; have HO0 := n0_; have HO221 := n1_; have HO226 := n2_; have BK217 := n3_; have HB := n4_; clear n0_ n1_ n2_ n3_ n4_; (try clear hb); (try clear hb2); (try clear hk); (try clear hi); have hczx7df51 : wx7df51.cell? ⟨gb217, 0, none⟩ = some (.int .i64 a4_0) := (blk_cell BK217.out 0).trans rfl; have hczx7df52 : wx7df51.cell? ⟨gb217, 1, none⟩ = some (.int .i64 a4_1) := (blk_cell BK217.out 1).trans rfl; have hfzx7df51 := blk_frozen BK217.out 0; have hfzx7df52 := blk_frozen BK217.out 1) | ((with_reducible refine gate_callee (f := 40) rfl ?_); refine goesL_ (some 41) rfl rfl Try.func40 (by kernel_rfl) rfl #[.slice A0 l0.length c0, .slice Aoxbd451 t223.length coxbd451] rfl (by (try simp only [List.map_toArray, List.map_cons, List.map_nil]); first | done | rfl | (simp only [List.length_drop, List.length_take]; rfl)) ?_; (with_reducible refine (tube_Inside.calls k _ _ l0 _ _ t223 t227 t228 _ ?side1 ?side2 ?side3 ?side4 A19.out).mono ?_); (case side1 => repeat (first | exact (Kd.V_reads' HO0.out).2.2 | (with_reducible refine Kd.C_alloc ?_ _) | (with_reducible refine Kd.C_drewN ?_ _) | (with_reducible refine Kd.C_drew ?_))); (case side2 => exact (Kd.V_reads' HO0.out).2.1); (case side3 => repeat (first | exact (Kd.R_reads' HO226.out).2.2 | (with_reducible refine Kd.C_alloc ?_ _) | (with_reducible refine Kd.C_drewN ?_ _) | (with_reducible refine Kd.C_drew ?_))); (case side4 => exact (Kd.R_reads' HO226.out).2.1); rintro e wx14091 ⟨rfl, hb⟩; refine ⟨_, rfl, ?_⟩; have n0_ := Aside0.mk (Kd.V_below (by (with_reducible repeat (first | apply Kd.V_alloc | apply Kd.V_drewN | apply Kd.V_drew)); exact HO0.out) hb); have n1_ := Aside0.mk (Kd.N_below (by (with_reducible repeat (first | apply Kd.N_alloc | apply Kd.N_drewN | apply Kd.N_drew)); exact HO221.out) hb); have n2_ := Aside0.mk (Kd.R_below (by (with_reducible repeat (first | apply Kd.R_alloc | apply Kd.R_drewN | apply Kd.R_drew)); exact HO226.out) hb); have n3_ := Aside0.mk (blk_below (g := gb217) (o := .cells #[.int .i64 a4_0, .int .i64 a4_1] 36 (0, 0)) (by (with_reducible repeat (first | refine blk_drewN ?_ _ | refine blk_drew ?_ | refine blk_alloc ?_ _)); exact BK217.out) hb); have n4_ := Aside0.mk (below_step (by repeat (first | (with_reducible first | exact HB.out | apply below_alloc | apply pw_below_drewN | apply below_drew1 | refine below_set ?_ GE217.out) | exact HB.out)) hb); clear HO0; clear HO221; clear HO226; clear BK217; clear HB; have HO0 := n0_; have HO221 := n1_; have HO226 := n2_; have BK217 := n3_; have HB := n4_; clear n0_ n1_ n2_ n3_ n4_; (try clear hb); (try clear hb2); (try clear hk); (try clear hi); have hczx14091 : wx14091.cell? ⟨gb217, 0, none⟩ = some (.int .i64 a4_0) := (blk_cell BK217.out 0).trans rfl; have hczx14092 : wx14091.cell? ⟨gb217, 1, none⟩ = some (.int .i64 a4_1) := (blk_cell BK217.out 1).trans rfl; have hfzx14091 := blk_frozen BK217.out 0; have hfzx14092 := blk_frozen BK217.out 1) | ((with_reducible refine gate_callee (f := 41) rfl ?_); refine goesL_ (some 49) rfl rfl Try.func41 (by kernel_rfl) rfl #[.slice A0 l0.length c0, .int .i64 a3, .agg #[.int .i64 a4_0, .int .i64 a4_1], .int .i64 a5] rfl (by (try simp only [List.map_toArray, List.map_cons, List.map_nil]); first | done | rfl | (simp only [List.length_drop, List.length_take]; rfl)) ?_; (with_reducible refine (tube_Has.calls k _ _ l0 a3 a4_0 a4_1 a5 false t230 _ ?side1 ?side2 A20.out).mono ?_); (case side1 => repeat (first | exact (Kd.V_reads' HO0.out).2.2 | (with_reducible refine Kd.C_alloc ?_ _) | (with_reducible refine Kd.C_drewN ?_ _) | (with_reducible refine Kd.C_drew ?_))); (case side2 => exact (Kd.V_reads' HO0.out).2.1); rintro e wx602d1 ⟨rfl, hb⟩; refine ⟨_, rfl, ?_⟩; have n0_ := Aside0.mk (Kd.V_below (by (with_reducible repeat (first | apply Kd.V_alloc | apply Kd.V_drewN | apply Kd.V_drew)); exact HO0.out) hb); have n1_ := Aside0.mk (Kd.N_below (by (with_reducible repeat (first | apply Kd.N_alloc | apply Kd.N_drewN | apply Kd.N_drew)); exact HO221.out) hb); have n2_ := Aside0.mk (Kd.R_below (by (with_reducible repeat (first | apply Kd.R_alloc | apply Kd.R_drewN | apply Kd.R_drew)); exact HO226.out) hb); have n3_ := Aside0.mk (blk_below (g := gb217) (o := .cells #[.int .i64 a4_0, .int .i64 a4_1] 36 (0, 0)) (by (with_reducible repeat (first | refine blk_drewN ?_ _ | refine blk_drew ?_ | refine blk_alloc ?_ _)); exact BK217.out) hb); have n4_ := Aside0.mk (below_step (by repeat (first | (with_reducible first | exact HB.out | apply below_alloc | apply pw_below_drewN | apply below_drew1 | refine below_set ?_ GE217.out) | exact HB.out)) hb); clear HO0; clear HO221; clear HO226; clear BK217; clear HB; have HO0 := n0_; have HO221 := n1_; have HO226 := n2_; have BK217 := n3_; have HB := n4_; clear n0_ n1_ n2_ n3_ n4_; (try clear hb); (try clear hb2); (try clear hk); (try clear hi); have hczx602d1 : wx602d1.cell? ⟨gb217, 0, none⟩ = some (.int .i64 a4_0) := (blk_cell BK217.out 0).trans rfl; have hczx602d2 : wx602d1.cell? ⟨gb217, 1, none⟩ = some (.int .i64 a4_1) := (blk_cell BK217.out 1).trans rfl; have hfzx602d1 := blk_frozen BK217.out 0; have hfzx602d2 := blk_frozen BK217.out 1) | ((with_reducible refine gate_callee (f := 41) rfl ?_); refine goesL_ (some 49) rfl rfl Try.func41 (by kernel_rfl) rfl #[.slice A0 l0.length c0, .int .i64 a3, .agg #[.int .i64 a4_0, .int .i64 a4_1], .int .i64 a5] rfl (by (try simp only [List.map_toArray, List.map_cons, List.map_nil]); first | done | rfl | (simp only [List.length_drop, List.length_take]; rfl)) ?_; (with_reducible refine (tube_Has.calls k _ _ l0 a3 a4_0 a4_1 a5 true t230 _ ?side1 ?side2 A20.out).mono ?_); (case side1 => repeat (first | exact (Kd.V_reads' HO0.out).2.2 | (with_reducible refine Kd.C_alloc ?_ _) | (with_reducible refine Kd.C_drewN ?_ _) | (with_reducible refine Kd.C_drew ?_))); (case side2 => exact (Kd.V_reads' HO0.out).2.1); rintro e wx1c7a1 ⟨rfl, hb⟩; refine ⟨_, rfl, ?_⟩; have n0_ := Aside0.mk (Kd.V_below (by (with_reducible repeat (first | apply Kd.V_alloc | apply Kd.V_drewN | apply Kd.V_drew)); exact HO0.out) hb); have n1_ := Aside0.mk (Kd.N_below (by (with_reducible repeat (first | apply Kd.N_alloc | apply Kd.N_drewN | apply Kd.N_drew)); exact HO221.out) hb); have n2_ := Aside0.mk (Kd.R_below (by (with_reducible repeat (first | apply Kd.R_alloc | apply Kd.R_drewN | apply Kd.R_drew)); exact HO226.out) hb); have n3_ := Aside0.mk (blk_below (g := gb217) (o := .cells #[.int .i64 a4_0, .int .i64 a4_1] 36 (0, 0)) (by (with_reducible repeat (first | refine blk_drewN ?_ _ | refine blk_drew ?_ | refine blk_alloc ?_ _)); exact BK217.out) hb); have n4_ := Aside0.mk (below_step (by repeat (first | (with_reducible first | exact HB.out | apply below_alloc | apply pw_below_drewN | apply below_drew1 | refine below_set ?_ GE217.out) | exact HB.out)) hb); clear HO0; clear HO221; clear HO226; clear BK217; clear HB; have HO0 := n0_; have HO221 := n1_; have HO226 := n2_; have BK217 := n3_; have HB := n4_; clear n0_ n1_ n2_ n3_ n4_; (try clear hb); (try clear hb2); (try clear hk); (try clear hi); have hczx1c7a1 : wx1c7a1.cell? ⟨gb217, 0, none⟩ = some (.int .i64 a4_0) := (blk_cell BK217.out 0).trans rfl; have hczx1c7a2 : wx1c7a1.cell? ⟨gb217, 1, none⟩ = some (.int .i64 a4_1) := (blk_cell BK217.out 1).trans rfl; have hfzx1c7a1 := blk_frozen BK217.out 0; have hfzx1c7a2 := blk_frozen BK217.out 1) | ((with_reducible refine gate_callee (f := 41) rfl ?_); refine goesL_ (some 49) rfl rfl Try.func41 (by kernel_rfl) rfl #[.slice A0 l0.length c0, .int .i64 a3, .agg #[.int .i64 a4_0, .int .i64 a4_1], .int .i64 a5] rfl (by (try simp only [List.map_toArray, List.map_cons, List.map_nil]); first | done | rfl | (simp only [List.length_drop, List.length_take]; rfl)) ?_; (with_reducible refine (tube_Has.calls k _ _ l0 a3 a4_0 a4_1 a5 t229 t230 _ ?side1 ?side2 A20.out).mono ?_); (case side1 => repeat (first | exact (Kd.V_reads' HO0.out).2.2 | (with_reducible refine Kd.C_alloc ?_ _) | (with_reducible refine Kd.C_drewN ?_ _) | (with_reducible refine Kd.C_drew ?_))); (case side2 => exact (Kd.V_reads' HO0.out).2.1); rintro e wxbc041 ⟨rfl, hb⟩; refine ⟨_, rfl, ?_⟩; have n0_ := Aside0.mk (Kd.V_below (by (with_reducible repeat (first | apply Kd.V_alloc | apply Kd.V_drewN | apply Kd.V_drew)); exact HO0.out) hb); have n1_ := Aside0.mk (Kd.N_below (by (with_reducible repeat (first | apply Kd.N_alloc | apply Kd.N_drewN | apply Kd.N_drew)); exact HO221.out) hb); have n2_ := Aside0.mk (Kd.R_below (by (with_reducible repeat (first | apply Kd.R_alloc | apply Kd.R_drewN | apply Kd.R_drew)); exact HO226.out) hb); have n3_ := Aside0.mk (blk_below (g := gb217) (o := .cells #[.int .i64 a4_0, .int .i64 a4_1] 36 (0, 0)) (by (with_reducible repeat (first | refine blk_drewN ?_ _ | refine blk_drew ?_ | refine blk_alloc ?_ _)); exact BK217.out) hb); have n4_ := Aside0.mk (below_step (by repeat (first | (with_reducible first | exact HB.out | apply below_alloc | apply pw_below_drewN | apply below_drew1 | refine below_set ?_ GE217.out) | exact HB.out)) hb); clear HO0; clear HO221; clear HO226; clear BK217; clear HB; have HO0 := n0_; have HO221 := n1_; have HO226 := n2_; have BK217 := n3_; have HB := n4_; clear n0_ n1_ n2_ n3_ n4_; (try clear hb); (try clear hb2); (try clear hk); (try clear hi); have hczxbc041 : wxbc041.cell? ⟨gb217, 0, none⟩ = some (.int .i64 a4_0) := (blk_cell BK217.out 0).trans rfl; have hczxbc042 : wxbc041.cell? ⟨gb217, 1, none⟩ = some (.int .i64 a4_1) := (blk_cell BK217.out 1).trans rfl; have hfzxbc041 := blk_frozen BK217.out 0; have hfzxbc042 := blk_frozen BK217.out 1) | ((with_reducible refine gate_callee (f := 41) rfl ?_); refine goesL_ (some 57) rfl rfl Try.func41 (by kernel_rfl) rfl #[.slice Aoxbd451 t223.length coxbd451, .int .i64 a3, .agg #[.int .i64 a4_0, .int .i64 a4_1], .int .i64 a5] rfl (by (try simp only [List.map_toArray, List.map_cons, List.map_nil]); first | done | rfl | (simp only [List.length_drop, List.length_take]; rfl)) ?_; (with_reducible refine (tube_Has.calls k _ _ t223 a3 a4_0 a4_1 a5 t231 t232 _ ?side1 ?side2 A21.out).mono ?_); (case side1 => repeat (first | exact (Kd.R_reads' HO226.out).2.2 | (with_reducible refine Kd.C_alloc ?_ _) | (with_reducible refine Kd.C_drewN ?_ _) | (with_reducible refine Kd.C_drew ?_))); (case side2 => exact (Kd.R_reads' HO226.out).2.1); rintro e wx8dd01 ⟨rfl, hb⟩; refine ⟨_, rfl, ?_⟩; have n0_ := Aside0.mk (Kd.V_below (by (with_reducible repeat (first | apply Kd.V_alloc | apply Kd.V_drewN | apply Kd.V_drew)); exact HO0.out) hb); have n1_ := Aside0.mk (Kd.N_below (by (with_reducible repeat (first | apply Kd.N_alloc | apply Kd.N_drewN | apply Kd.N_drew)); exact HO221.out) hb); have n2_ := Aside0.mk (Kd.R_below (by (with_reducible repeat (first | apply Kd.R_alloc | apply Kd.R_drewN | apply Kd.R_drew)); exact HO226.out) hb); have n3_ := Aside0.mk (blk_below (g := gb217) (o := .cells #[.int .i64 a4_0, .int .i64 a4_1] 36 (0, 0)) (by (with_reducible repeat (first | refine blk_drewN ?_ _ | refine blk_drew ?_ | refine blk_alloc ?_ _)); exact BK217.out) hb); have n4_ := Aside0.mk (below_step (by repeat (first | (with_reducible first | exact HB.out | apply below_alloc | apply pw_below_drewN | apply below_drew1 | refine below_set ?_ GE217.out) | exact HB.out)) hb); clear HO0; clear HO221; clear HO226; clear BK217; clear HB; have HO0 := n0_; have HO221 := n1_; have HO226 := n2_; have BK217 := n3_; have HB := n4_; clear n0_ n1_ n2_ n3_ n4_; (try clear hb); (try clear hb2); (try clear hk); (try clear hi)))
  go_ret
  exact ⟨by first | rfl | (simp [errW_none, errW_some] <;> rfl) | (simp [*, errW_none, errW_some] <;> rfl), by repeat (first | (with_reducible first | exact HB.out | apply below_alloc | apply pw_below_drewN | apply below_drew1 | refine below_set ?_ GE217.out) | exact HB.out)⟩

/-- What is told of a value of struct type 36 that came in. -/
def good36 (x : S36) : Prop := ((Lit.int .i64 x.f0).wf = true) ∧ (Lit.int .i64 x.f1).wf = true
/-- What is told of a value of struct type 71 that came in. -/
def good71 (x : S71) : Prop := ((Lit.int .i64 x.f0).wf = true) ∧ (good36 x.f1) ∧ (Lit.int .i64 x.f2).wf = true
/-- What is told of a value of struct type 88 that came in. -/
def good88 (x : S88) : Prop := (good71 x.f0) ∧ ((Lit.int .i64 x.f1).wf = true) ∧ (Lit.int .i64 x.f2).wf = true
/-- THE ONE PURE STATEMENT of skywaykeep1_TubeWidens. -/
def skywaykeep1_TubeWidens.Pure : Prop := ∀ (l0 : List (S88)) (a1 : Int) (a2 : Int) (a3 : Int) (a4_0 : Int) (a4_1 : Int) (a5 : Int), (l0.length * 48 ≤ 140737488351232 ∧ ∀ y0 ∈ l0, good88 y0) → ((Lit.int .i64 a1).wf = true) → ((Lit.int .i64 a2).wf = true) → ((Lit.int .i64 a3).wf = true) → ((Lit.int .i64 a4_0).wf = true) → ((Lit.int .i64 a4_1).wf = true) → ((Lit.int .i64 a5).wf = true) → ∃ k, skywaykeep1_TubeWidens.f k l0 a1 a2 a3 a4_0 a4_1 a5 = some true

end Go.Proofs.Ytbpbpojnfhhbjaa.PTubeWidens
