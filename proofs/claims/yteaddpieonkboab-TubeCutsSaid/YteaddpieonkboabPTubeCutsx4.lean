/- Made by a program of this session (wip/tools/myprint.py, over the kit's printer): that the Go functions answer as the Lean functions printed beside them. -/
import Derived.Test.YteaddpieonkboabPTubeCutsx0
import Derived.Test.YteaddpieonkboabPTubeCutsx2
import Derived.Test.YteaddpieonkboabPTubeCutsx3
namespace Go.Proofs.Yteaddpieonkboab.PTubeCuts
open Go.RowKit Go.Proofs.YteaddpieonkboabW.PrintWords Go.Proofs.YteaddpieonkboabW.PrintLast Go.Proofs.YteaddpieonkboabW.PrintMore
attribute [local go_sem] max2_int min2_int max_two min_two max_three min_three max_four min_four   -- for this text's walks alone
set_option linter.unusedVariables false
set_option linter.unusedSimpArgs false

/-! ### tube_Of: function 25 -/
mutual
def tube_Of.j0 : Nat → List (S28) → Int → Int → Int → Bool → Option ((List (S30)) × Int)
  | 0, _, _, _, _, _ => none
  | k + 1, x0, x1, x2, x3, x42 => if x42 = true then (some (([] : List (S30)), 4)) else (tube_Of.l0 k x0 x1 x2 x3 ([] : List (S30)) x0 (x0.length : Int) 0)
def tube_Of.l0 : Nat → List (S28) → Int → Int → Int → List (S30) → List (S28) → Int → Int → Option ((List (S30)) × Int)
  | 0, _, _, _, _, _, _, _, _ => none
  | k + 1, x0, x1, x2, x3, x11, x43, x44, x45 => if x45 < x44 then (if 0 ≤ x45 then (if x45 < (x43.length : Int) then (if 0 < (x0.length : Int) then ((num_DivUp.f k (wrap64 (x2 * (wrap64 (((rd_T28 x43 x45).f0) - ((rd_T28 x0 0).f0))))) 60).bind fun bt116 => (if x11.length < 2932031007402 then (tube_Of.l0 k x0 x1 x2 x3 (x11 ++ [(⟨(⟨(rd_T28 x43 x45).f0, (⟨(rd_T28 x43 x45).f1.f0, (rd_T28 x43 x45).f1.f1⟩ : S26), (rd_T28 x43 x45).f2⟩ : S28), wrap64 (x1 + bt116.1), x3⟩ : S30)]) x43 x44 (wrap64 (x45 + 1))) else (none))) else (none)) else (none)) else (none)) else ((tube_Check.f k x11).bind fun t121 => (if t121 = 0 then (some (x11, 0)) else (some (([] : List (S30)), 4))))
end
def tube_Of.f (k : Nat) (l0 : List (S28)) (a1 : Int) (a2 : Int) (a3 : Int) : Option ((List (S30)) × Int) := (fly_Check.f k l0).bind fun t112 => (if t112 = 0 then (if a1 < 0 then (tube_Of.j0 k l0 a1 a2 a3 true) else (if a1 > 1000000 then (tube_Of.j0 k l0 a1 a2 a3 true) else (if a2 < 0 then (tube_Of.j0 k l0 a1 a2 a3 true) else (if a2 > 1000000 then (tube_Of.j0 k l0 a1 a2 a3 true) else (if a3 < 0 then (tube_Of.j0 k l0 a1 a2 a3 true) else (tube_Of.j0 k l0 a1 a2 a3 (decide (a3 > 60000)))))))) else (some (([] : List (S30)), t112)))
theorem tube_Of.mono_l : ∀ k, (∀ y0 y1 y2 y3 y4, LeO (tube_Of.j0 k y0 y1 y2 y3 y4) (tube_Of.j0 (k + 1) y0 y1 y2 y3 y4)) ∧ (∀ y0 y1 y2 y3 y4 y5 y6 y7, LeO (tube_Of.l0 k y0 y1 y2 y3 y4 y5 y6 y7) (tube_Of.l0 (k + 1) y0 y1 y2 y3 y4 y5 y6 y7))
  | 0 => ⟨fun _ _ _ _ _ r h => by simp [tube_Of.j0] at h, fun _ _ _ _ _ _ _ _ r h => by simp [tube_Of.l0] at h⟩
  | k + 1 => by
    obtain ⟨ih0, ih1⟩ := tube_Of.mono_l k
    refine ⟨?_, ?_⟩
    · intro y0 y1 y2 y3 y4
      unfold tube_Of.j0
      repeat' first
      | (with_reducible exact ih0 _ _ _ _ _)
      | (with_reducible exact ih1 _ _ _ _ _ _ _ _)
      | (with_reducible exact fly_Check.mono _ _)
      | (with_reducible exact num_DivUp.mono _ _ _)
      | (with_reducible exact tube_Check.mono _ _)
      | (with_reducible exact LeO.refl _)
      | (with_reducible exact LeO.none _)
      | (with_reducible refine LeO.ite ?_ ?_)
      | (with_reducible refine LeO.bind ?_ (fun _ => ?_))
      | exact ih0 _ _ _ _ _
      | exact ih1 _ _ _ _ _ _ _ _
      | exact fly_Check.mono _ _
      | exact num_DivUp.mono _ _ _
      | exact tube_Check.mono _ _
      | exact LeO.none _
      | refine LeO.ite ?_ ?_
      | refine LeO.bind ?_ (fun _ => ?_)
    · intro y0 y1 y2 y3 y4 y5 y6 y7
      unfold tube_Of.l0
      repeat' first
      | (with_reducible exact ih0 _ _ _ _ _)
      | (with_reducible exact ih1 _ _ _ _ _ _ _ _)
      | (with_reducible exact fly_Check.mono _ _)
      | (with_reducible exact num_DivUp.mono _ _ _)
      | (with_reducible exact tube_Check.mono _ _)
      | (with_reducible exact LeO.refl _)
      | (with_reducible exact LeO.none _)
      | (with_reducible refine LeO.ite ?_ ?_)
      | (with_reducible refine LeO.bind ?_ (fun _ => ?_))
      | exact ih0 _ _ _ _ _
      | exact ih1 _ _ _ _ _ _ _ _
      | exact fly_Check.mono _ _
      | exact num_DivUp.mono _ _ _
      | exact tube_Check.mono _ _
      | exact LeO.none _
      | refine LeO.ite ?_ ?_
      | refine LeO.bind ?_ (fun _ => ?_)
theorem tube_Of.mono : ∀ a0 a1 a2 a3 k, LeO (tube_Of.f k a0 a1 a2 a3) (tube_Of.f (k + 1) a0 a1 a2 a3) := by
  intro a0 a1 a2 a3 k
  obtain ⟨ih0, ih1⟩ := tube_Of.mono_l k
  unfold tube_Of.f
  repeat' first
      | (with_reducible exact ih0 _ _ _ _ _)
      | (with_reducible exact ih1 _ _ _ _ _ _ _ _)
      | (with_reducible exact fly_Check.mono _ _)
      | (with_reducible exact num_DivUp.mono _ _ _)
      | (with_reducible exact tube_Check.mono _ _)
      | (with_reducible exact LeO.refl _)
      | (with_reducible exact LeO.none _)
      | (with_reducible refine LeO.ite ?_ ?_)
      | (with_reducible refine LeO.bind ?_ (fun _ => ?_))
      | exact ih0 _ _ _ _ _
      | exact ih1 _ _ _ _ _ _ _ _
      | exact fly_Check.mono _ _
      | exact num_DivUp.mono _ _ _
      | exact tube_Check.mono _ _
      | exact LeO.none _
      | refine LeO.ite ?_ ?_
      | refine LeO.bind ?_ (fun _ => ?_)
def tube_Of.T10 : Bool × List (List Nat × List Nat) := (true, [([], []), ([], []), ([1], [1]), ([], []), ([3], [3]), ([4], [4]), ([5], [5]), ([2, 6], [2, 6]), ([0, 7], [0, 7]), ([8], [8]), ([9], [9]), ([10], [10]), ([10], [10]), ([11, 9, 0, 1, 2, 3, 4, 5, 6, 7, 8, 9, 10, 11], [11]), ([12, 13, 0, 1, 2, 3, 4, 5, 6, 7, 8, 9, 10, 11, 12, 13], [12])])
def tube_Of.B10 : List Nat := [0, 0, 2, 0, 8, 24, 56, 126, 255, 511, 1023, 2047, 2047, 4095, 16383]
theorem tube_Of.tab10 : rtab .any (opsOf Try.f25 10) = tube_Of.T10 := by kernel_rfl
theorem tube_Of.bits10 : waitsOk tube_Of.T10.2 tube_Of.B10 = true := by kernel_rfl
set_option maxHeartbeats 8000000 in
set_option maxRecDepth 100000 in
theorem tube_Of.calls (k : Nat) (A0 : Option Addr) (c0 : Nat) (l0 : List (S28)) (a1 : Int) (a2 : Int) (a3 : Int) (r1 : List (S30)) (r2 : Int) (w : World) (hr0 : Kd.C k28 w A0 l0.length l0) (hc0 : l0.length ≤ c0) (h : tube_Of.f k l0 a1 a2 a3 = some (r1, r2)) :
    Calls Try.prog 25 #[.slice A0 l0.length c0, .int .i64 a1, .int .i64 a2, .int .i64 a3] w fun e w' => ∃ v0_ : Value, e = .returned (.tuple #[v0_, .int .i64 r2]) ∧ Kd.R k30 30 w' w.heap.size (fun _ => True) v0_ r1 ∧ Below w.heap.size w w' := by
 have hu28 := Try.underlying28
 have hu30 := Try.underlying30
 have HR0 := Aside0.mk hr0
 have HC0 := Aside0.mk hc0
 clear hr0 hc0
 have HB := Aside0.mk (Below.refl w.heap.size w)
 have H : ((fly_Check.f k l0).bind fun t112 => (if t112 = 0 then (if a1 < 0 then (tube_Of.j0 k l0 a1 a2 a3 true) else (if a1 > 1000000 then (tube_Of.j0 k l0 a1 a2 a3 true) else (if a2 < 0 then (tube_Of.j0 k l0 a1 a2 a3 true) else (if a2 > 1000000 then (tube_Of.j0 k l0 a1 a2 a3 true) else (if a3 < 0 then (tube_Of.j0 k l0 a1 a2 a3 true) else (tube_Of.j0 k l0 a1 a2 a3 (decide (a3 > 60000)))))))) else (some (([] : List (S30)), t112)))) = some (r1, r2) := h
 clear h
 replace H := Option.bind_eq_some_iff.mp H
 obtain ⟨t112, A50, H⟩ := H
 replace H : (if t112 = 0 then (if a1 < 0 then (tube_Of.j0 k l0 a1 a2 a3 true) else (if a1 > 1000000 then (tube_Of.j0 k l0 a1 a2 a3 true) else (if a2 < 0 then (tube_Of.j0 k l0 a1 a2 a3 true) else (if a2 > 1000000 then (tube_Of.j0 k l0 a1 a2 a3 true) else (if a3 < 0 then (tube_Of.j0 k l0 a1 a2 a3 true) else (tube_Of.j0 k l0 a1 a2 a3 (decide (a3 > 60000)))))))) else (some (([] : List (S30)), t112))) = some (r1, r2) := H
 have A5 := Aside0.mk A50
 clear A50
 refine Or.elim (Classical.em (t112 = 0)) (fun c6 => ?p2_) (fun c6 => ?n2_)
 case' p2_ =>
  rw [if_pos c6] at H
  have c6b0 : (t112 == 0) = true := beq_iff_eq.mpr c6
  have c6b1 : (t112 != 0) = false := bne_eq_false_iff_eq.mpr c6
  clear c6
  have HC7 := Aside0.mk H
  clear H
  have hm1_0 := Aside0.mk trivial
 case' n2_ =>
  rw [if_neg c6] at H
  have c6b0 : (t112 == 0) = false := beq_eq_false_iff_ne.mpr c6
  have c6b1 : (t112 != 0) = true := bne_iff_ne.mpr c6
  simp only [Option.some.injEq, Prod.mk.injEq] at H
  obtain ⟨rfl, rfl⟩ := H
  have hm1_1 := Aside0.mk trivial
 all_goals
  go_enter Try.func25, Try.ntmps25
  first
   | clear hm1_0
     go_upto_region 4 with (first | ((with_reducible refine gate_callee (f := 43) rfl ?_); refine goesL_ (some 17) rfl rfl Try.func43 (by kernel_rfl) rfl #[.slice A0 l0.length c0] rfl (by (try simp only [List.map_toArray, List.map_cons, List.map_nil]); first | done | rfl | (simp only [List.length_drop, List.length_take]; rfl)) ?_; (with_reducible refine (fly_Check.calls k _ _ l0 t112 _ ?side1 ?side2 A5.out).mono ?_); (case side1 => repeat (first | exact HR0.out | (with_reducible refine Kd.C_alloc ?_ _) | (with_reducible refine Kd.C_drewN ?_ _) | (with_reducible refine Kd.C_drew ?_))); (case side2 => exact HC0.out); rintro e wx64ba1 ⟨rfl, hb⟩; refine ⟨_, rfl, ?_⟩; have n0_ := Aside0.mk (below_step (by repeat (first | (with_reducible first | exact HB.out | apply below_alloc | apply pw_below_drewN | apply below_drew1) | exact HB.out)) hb); clear HB; have HB := n0_; clear n0_; (try clear hb); (try clear hb2); (try clear hk); (try clear hi)))
     (try simp only [Act.put, List.setIfInBounds_toArray, List.set_cons_zero, List.set_cons_succ])
     go_cut [42] (fun v42 wc => ∃ (kq : Nat) (x42_6 : Bool), v42 = .bool x42_6 ∧ Aside0 (tube_Of.j0 kq l0 a1 a2 a3 x42_6 = some (r1, r2)) ∧ Aside0 (kq ≤ k) ∧ Aside0 (Below w.heap.size w wc))
     case first =>
      have H := HC7.out
      clear HC7
      refine Or.elim (Classical.em (a1 < 0)) (fun c9 => ?p4_) (fun c9 => ?n4_)
      case' p4_ =>
       rw [if_pos c9] at H
       have c9b0 : decide (a1 < 0) = true := decide_eq_true c9
       clear c9
       (first | rw [c9b0] | (simp only [i64_w, i32_w]; rw [c9b0]) | skip)
      case' n4_ =>
       rw [if_neg c9] at H
       have c9b0 : decide (a1 < 0) = false := decide_eq_false c9
       clear c9
       (first | rw [c9b0] | (simp only [i64_w, i32_w]; rw [c9b0]) | skip)
       refine Or.elim (Classical.em (a1 > 1000000)) (fun c10 => ?p5_) (fun c10 => ?n5_)
       case' p5_ =>
        rw [if_pos c10] at H
        have c10b0 : decide (1000000 < a1) = true := decide_eq_true c10
        clear c10
       case' n5_ =>
        rw [if_neg c10] at H
        have c10b0 : decide (1000000 < a1) = false := decide_eq_false c10
        clear c10
        refine Or.elim (Classical.em (a2 < 0)) (fun c11 => ?p6_) (fun c11 => ?n6_)
        case' p6_ =>
         rw [if_pos c11] at H
         have c11b0 : decide (a2 < 0) = true := decide_eq_true c11
         clear c11
        case' n6_ =>
         rw [if_neg c11] at H
         have c11b0 : decide (a2 < 0) = false := decide_eq_false c11
         clear c11
         refine Or.elim (Classical.em (a2 > 1000000)) (fun c12 => ?p7_) (fun c12 => ?n7_)
         case' p7_ =>
          rw [if_pos c12] at H
          have c12b0 : decide (1000000 < a2) = true := decide_eq_true c12
          clear c12
         case' n7_ =>
          rw [if_neg c12] at H
          have c12b0 : decide (1000000 < a2) = false := decide_eq_false c12
          clear c12
          refine Or.elim (Classical.em (a3 < 0)) (fun c13 => ?p8_) (fun c13 => ?n8_)
          case' p8_ =>
           rw [if_pos c13] at H
           have c13b0 : decide (a3 < 0) = true := decide_eq_true c13
           clear c13
          case' n8_ =>
           rw [if_neg c13] at H
           have c13b0 : decide (a3 < 0) = false := decide_eq_false c13
           clear c13
      all_goals
       have H' := Aside0.mk H
       clear H
       go_wp2
       go_meet
       case rel => first | (exact ⟨_, (true), (by first | rfl | (simp; done) | (simp [*]; done)), H', ⟨by first | omega | exact Nat.le_refl _⟩, ⟨by repeat (first | (with_reducible first | exact HB.out | apply below_alloc | apply pw_below_drewN | apply below_drew1) | exact HB.out)⟩⟩) | (exact ⟨_, (decide (a3 > 60000)), (by first | rfl | (simp; done) | (simp [*]; done)), H', ⟨by first | omega | exact Nat.le_refl _⟩, ⟨by repeat (first | (with_reducible first | exact HB.out | apply below_alloc | apply pw_below_drewN | apply below_drew1) | exact HB.out)⟩⟩)
     case rest =>
      clear HC7
      (try clear c1); (try clear c2); (try clear p2); (try clear c4); (try clear c6); (try clear c6b0); (try clear c6b1); (try clear c9); (try clear c9b0); (try clear c10); (try clear c10b0); (try clear c11); (try clear c11b0); (try clear c12); (try clear c12b0); (try clear c13); (try clear c13b0)
      obtain ⟨kq, x42_6, rfl, HA, HJ6, HB⟩ := hcut
      cases kq with
      | zero => exact absurd HA.out (by simp [tube_Of.j0])
      | succ kj6 =>
       have H := HA.out
       clear HA
       simp only [tube_Of.j0] at H
       by_cases c14 : x42_6 = true
       · subst c14
         have H1 : (some (([] : List (S30)), 4)) = some (r1, r2) := by rw [if_pos rfl] at H; exact H
         clear H
         have H := H1
         clear H1
         simp only [Option.some.injEq, Prod.mk.injEq] at H
         obtain ⟨rfl, rfl⟩ := H
         go_wp2
         go_ret2
         exact ⟨_, by first | rfl | (simp [errW_none, errW_some] <;> rfl) | (simp [*, errW_none, errW_some] <;> rfl), by first | exact Kd.R_nil _ _ _ _ _ | exact Kd.N_nil _ _ _ _ _ | exact Kd.V_nil _ _ _ _ _ | exact Kd.Q_nil _ _ _ _ _ | exact Kd.S_nil _ _ _ _ _, by repeat (first | (with_reducible first | exact HB.out | apply below_alloc | apply pw_below_drewN | apply below_drew1) | exact HB.out)⟩
       · replace c14 := Bool.eq_false_iff.mpr c14
         subst c14
         have H1 : (tube_Of.l0 kj6 l0 a1 a2 a3 ([] : List (S30)) l0 (l0.length : Int) 0) = some (r1, r2) := by rw [if_neg (show ¬ (false = true) by decide)] at H; exact H
         clear H
         have H := H1
         clear H1
         have H' := Aside0.mk H
         clear H
         go_wp2
         go_loopg [11, 45] kj6 (fun kq v11 v45 w' => ∃ (x11_2 : List (S30)) (x45_2 : Int), v45 = .int .i64 x45_2 ∧ Aside0 (tube_Of.l0 kq l0 a1 a2 a3 x11_2 l0 (l0.length : Int) x45_2 = some (r1, r2)) ∧ Aside0 (kq ≤ kj6) ∧ Aside0 (Kd.R k30 30 w' w.heap.size (fun _ => True) v11 x11_2) ∧ Aside0 (Below w.heap.size w w'))
         case atStart => exact ⟨(([] : List (S30))), (0), (by first | rfl | (simp; done) | (simp [*]; done)), H', ⟨Nat.le_refl _⟩, ⟨by first | exact Kd.R_nil _ _ _ _ _ | exact Kd.N_nil _ _ _ _ _ | exact Kd.V_nil _ _ _ _ _ | exact Kd.Q_nil _ _ _ _ _ | exact Kd.S_nil _ _ _ _ _⟩, ⟨by repeat (first | (with_reducible first | exact HB.out | apply below_alloc | apply pw_below_drewN | apply below_drew1) | exact HB.out)⟩⟩
         case round =>
          clear H'
          (try clear c1); (try clear c2); (try clear p2); (try clear c4); (try clear c6); (try clear c6b0); (try clear c6b1); (try clear c9); (try clear c9b0); (try clear c10); (try clear c10b0); (try clear c11); (try clear c11b0); (try clear c12); (try clear c12b0); (try clear c13); (try clear c13b0); (try clear c14); (try clear p2)
          obtain ⟨x11_2, x45_2, rfl, HA, HK2, HO_11, HB⟩ := hrel
          cases gk with
          | zero => exact absurd HA.out (by simp [tube_Of.l0])
          | succ k2 =>
           have H := HA.out
           clear HA
           simp only [tube_Of.l0] at H
           refine Or.elim (Classical.em (x45_2 < (l0.length : Int))) (fun c15 => ?p10_) (fun c15 => ?n10_)
           case' p10_ =>
            rw [if_pos c15] at H
            have c15b0 : decide (x45_2 < (l0.length : Int)) = true := decide_eq_true c15
            clear c15
            refine Or.elim (Classical.em (0 ≤ x45_2)) (fun c16 => ?p11_) (fun c16 => ?n11_)
            case' p11_ =>
             rw [if_pos c16] at H
             have c16b0 : decide (0 ≤ x45_2) = true := decide_eq_true c16
             clear c16
             refine Or.elim (Classical.em (x45_2 < (l0.length : Int))) (fun c17 => ?p12_) (fun c17 => ?n12_)
             case' p12_ =>
              rw [if_pos c17] at H
              have c17b0 : decide (x45_2 < (l0.length : Int)) = true := decide_eq_true c17
              clear c17
              refine Or.elim (Classical.em (0 < (l0.length : Int))) (fun c18 => ?p13_) (fun c18 => ?n13_)
              case' p13_ =>
               rw [if_pos c18] at H
               have c18b0 : decide (0 < (l0.length : Int)) = true := decide_eq_true c18
               have c18b1 : decide (0 < l0.length) = true := decide_eq_true (by omega)
               clear c18
               replace H := Option.bind_eq_some_iff.mp H
               obtain ⟨⟨t116, t117⟩, A190, H⟩ := H
               replace H : (if x11_2.length < 2932031007402 then (tube_Of.l0 k2 l0 a1 a2 a3 (x11_2 ++ [(⟨(⟨(rd_T28 l0 x45_2).f0, (⟨(rd_T28 l0 x45_2).f1.f0, (rd_T28 l0 x45_2).f1.f1⟩ : S26), (rd_T28 l0 x45_2).f2⟩ : S28), wrap64 (a1 + t116), a3⟩ : S30)]) l0 (l0.length : Int) (wrap64 (x45_2 + 1))) else (none)) = some (r1, r2) := H
               have A19 := Aside0.mk A190
               clear A190
               refine Or.elim (Classical.em (x11_2.length < 2932031007402)) (fun c20 => ?p14_) (fun c20 => ?n14_)
               case' p14_ =>
                rw [if_pos c20] at H
                have LMc20 := Aside0.mk c20
                clear c20
                obtain ⟨y118, hy118⟩ : ∃ y_ : List (S30), y_ = (x11_2 ++ [(⟨(⟨(rd_T28 l0 x45_2).f0, (⟨(rd_T28 l0 x45_2).f1.f0, (rd_T28 l0 x45_2).f1.f1⟩ : S26), (rd_T28 l0 x45_2).f2⟩ : S28), wrap64 (a1 + t116), a3⟩ : S30)]) := ⟨_, rfl⟩
                replace H : (tube_Of.l0 k2 l0 a1 a2 a3 y118 l0 (l0.length : Int) (wrap64 (x45_2 + 1))) = some (r1, r2) := by first | (rw [hy118]; with_reducible exact H) | (have H2_ := (Option.bind_some _ _).symm.trans H; rw [hy118]; with_reducible exact H2_) | (have H2_ := (Option.bind_some _ _).symm.trans H; with_reducible exact H2_) | with_reducible exact H | (rw [hy118]; exact H) | exact H
                have Ny118 := Aside0.mk hy118
                clear hy118
                have hm9_0 := Aside0.mk trivial
               case' n14_ =>
                rw [if_neg c20] at H
                exact absurd H (by simp)
              case' n13_ =>
               rw [if_neg c18] at H
               exact absurd H (by simp)
             case' n12_ =>
              rw [if_neg c17] at H
              exact absurd H (by simp)
            case' n11_ =>
             rw [if_neg c16] at H
             exact absurd H (by simp)
           case' n10_ =>
            rw [if_neg c15] at H
            have c15b0 : decide (x45_2 < (l0.length : Int)) = false := decide_eq_false c15
            clear c15
            replace H := Option.bind_eq_some_iff.mp H
            obtain ⟨t121, A280, H⟩ := H
            replace H : (if t121 = 0 then (some (x11_2, 0)) else (some (([] : List (S30)), 4))) = some (r1, r2) := H
            have A28 := Aside0.mk A280
            clear A280
            refine Or.elim (Classical.em (t121 = 0)) (fun c29 => ?p15_) (fun c29 => ?n15_)
            case' p15_ =>
             rw [if_pos c29] at H
             have c29b0 : (t121 == 0) = true := beq_iff_eq.mpr c29
             have c29b1 : (t121 != 0) = false := bne_eq_false_iff_eq.mpr c29
             clear c29
             simp only [Option.some.injEq, Prod.mk.injEq] at H
             obtain ⟨rfl, rfl⟩ := H
             obtain ⟨Aozc1, cozc1, eozc1⟩ := Kd.R_slice HO_11.out
             subst eozc1
             have hm9_1 := Aside0.mk trivial
            case' n15_ =>
             rw [if_neg c29] at H
             have c29b0 : (t121 == 0) = false := beq_eq_false_iff_ne.mpr c29
             have c29b1 : (t121 != 0) = true := bne_iff_ne.mpr c29
             simp only [Option.some.injEq, Prod.mk.injEq] at H
             obtain ⟨rfl, rfl⟩ := H
             obtain ⟨Aozc2, cozc2, eozc2⟩ := Kd.R_slice HO_11.out
             subst eozc2
             have hm9_2 := Aside0.mk trivial
           all_goals
            first
             | clear hm9_0
               have H' := Aside0.mk H
               clear H
               have p113 : 0 ≤ (x45_2 : Int) := of_decide_eq_true (by first | (with_reducible assumption) | assumption)
               have q113 : x45_2 < (l0.length : Int) := of_decide_eq_true (by first | (with_reducible assumption) | assumption)
               obtain ⟨ad113, e113, hx113_0, hx113_1, hx113_2, hx113_3⟩ := at_T28 HR0.out x45_2 p113 q113
               cases e113
               replace hx113_0 := (HB.out.cell (World.block_lt_of_cell? w _ hx113_0)).trans hx113_0
               replace hx113_1 := (HB.out.cell (World.block_lt_of_cell? w _ hx113_1)).trans hx113_1
               replace hx113_2 := (HB.out.cell (World.block_lt_of_cell? w _ hx113_2)).trans hx113_2
               replace hx113_3 := (HB.out.cell (World.block_lt_of_cell? w _ hx113_3)).trans hx113_3
               replace p113 := eq_true p113
               replace q113 := eq_true q113
               try go_wp2_with (first | ((with_reducible refine gate_dst (N := 13) rfl ?_); refine box_event ?hg (N := 13) ?hd (cs := #[.int .i64 0, .int .i64 0, .int .i64 0, .int .i64 0]) (t := 28) ?hr ?_; (case hd => rfl); (case hg => rfl); (case hr => first | (go_simp; done) | (go_simp; rfl)); intro gb114 hg wx5f411 hbox hb; have n0_ := Aside0.mk (Kd.R_below (by (with_reducible repeat (first | apply Kd.R_alloc | apply Kd.R_drewN | apply Kd.R_drew)); exact HO_11.out) hb); have n1_ := Aside0.mk (below_step (by repeat (first | (with_reducible first | exact HB.out | apply below_alloc | apply pw_below_drewN | apply below_drew1) | exact HB.out)) hb); have n2_ := Aside0.mk (hbox); have n3_ := Aside0.mk ((by rw [hg]; exact (below_size (by repeat (first | (with_reducible first | exact HB.out | apply below_alloc | apply pw_below_drewN | apply below_drew1) | exact HB.out))) : w.heap.size ≤ gb114)); have n4_ := Aside0.mk ((by rw [hg]; exact (below_size (by repeat (first | (with_reducible first | exact HB.out | apply below_alloc | apply pw_below_drewN | apply below_drew1) | exact HB.out))) : w.heap.size ≤ gb114)); clear HO_11; clear HB; have HO_11 := n0_; have HB := n1_; have BK114 := n2_; have GW114 := n3_; have GE114 := n4_; clear n0_ n1_ n2_ n3_ n4_; clear hb hbox hg; have hczx5f411 : wx5f411.cell? ⟨gb114, 0, none⟩ = some (.int .i64 0) := (blk_cell BK114.out 0).trans rfl; have hczx5f412 : wx5f411.cell? ⟨gb114, 1, none⟩ = some (.int .i64 0) := (blk_cell BK114.out 1).trans rfl; have hczx5f413 : wx5f411.cell? ⟨gb114, 2, none⟩ = some (.int .i64 0) := (blk_cell BK114.out 2).trans rfl; have hczx5f414 : wx5f411.cell? ⟨gb114, 3, none⟩ = some (.int .i64 0) := (blk_cell BK114.out 3).trans rfl; have hfzx5f411 := blk_frozen BK114.out 0; have hfzx5f412 := blk_frozen BK114.out 1; have hfzx5f413 := blk_frozen BK114.out 2; have hfzx5f414 := blk_frozen BK114.out 3))
               have n0_ : Aside0 (Kd.R k30 30 ((((wx5f411.setCell ⟨gb114, 0, none⟩ (.int .i64 ((rd_T28 l0 x45_2).f0))).setCell ⟨gb114, 1, none⟩ (.int .i64 ((rd_T28 l0 x45_2).f1.f0))).setCell ⟨gb114, 2, none⟩ (.int .i64 ((rd_T28 l0 x45_2).f1.f1))).setCell ⟨gb114, 3, none⟩ (.int .i64 ((rd_T28 l0 x45_2).f2))) w.heap.size (fun _ => True) u11 x11_2) := ⟨by (with_reducible repeat (first | apply Kd.R_alloc | apply Kd.R_drewN | apply Kd.R_drew)); exact Kd.R_mono (Kd.R_far (p := ⟨gb114, 3, none⟩) (Kd.R_far (p := ⟨gb114, 2, none⟩) (Kd.R_far (p := ⟨gb114, 1, none⟩) (Kd.R_far (p := ⟨gb114, 0, none⟩) (Kd.R_types HO_11.out BK114.out (by decide)) (fun _ hk => hk.2) (.int .i64 ((rd_T28 l0 x45_2).f0))) (fun _ hk => hk.2) (.int .i64 ((rd_T28 l0 x45_2).f1.f0))) (fun _ hk => hk.2) (.int .i64 ((rd_T28 l0 x45_2).f1.f1))) (fun _ hk => hk.2) (.int .i64 ((rd_T28 l0 x45_2).f2))) (fun _ hk => trivial)⟩
               have n1_ : Aside0 (((((wx5f411.setCell ⟨gb114, 0, none⟩ (.int .i64 ((rd_T28 l0 x45_2).f0))).setCell ⟨gb114, 1, none⟩ (.int .i64 ((rd_T28 l0 x45_2).f1.f0))).setCell ⟨gb114, 2, none⟩ (.int .i64 ((rd_T28 l0 x45_2).f1.f1))).setCell ⟨gb114, 3, none⟩ (.int .i64 ((rd_T28 l0 x45_2).f2))).heap[gb114]? = some (.cells #[.int .i64 ((rd_T28 l0 x45_2).f0), .int .i64 ((rd_T28 l0 x45_2).f1.f0), .int .i64 ((rd_T28 l0 x45_2).f1.f1), .int .i64 ((rd_T28 l0 x45_2).f2)] 28 (0, 0))) := ⟨by (with_reducible repeat (first | refine blk_drewN ?_ _ | refine blk_drew ?_ | refine blk_alloc ?_ _)); refine blk_put (cs := #[.int .i64 ((rd_T28 l0 x45_2).f0), .int .i64 ((rd_T28 l0 x45_2).f1.f0), .int .i64 ((rd_T28 l0 x45_2).f1.f1), .int .i64 0]) ?_ 3 _ rfl; (with_reducible repeat (first | refine blk_drewN ?_ _ | refine blk_drew ?_ | refine blk_alloc ?_ _)); refine blk_put (cs := #[.int .i64 ((rd_T28 l0 x45_2).f0), .int .i64 ((rd_T28 l0 x45_2).f1.f0), .int .i64 0, .int .i64 0]) ?_ 2 _ rfl; (with_reducible repeat (first | refine blk_drewN ?_ _ | refine blk_drew ?_ | refine blk_alloc ?_ _)); refine blk_put (cs := #[.int .i64 ((rd_T28 l0 x45_2).f0), .int .i64 0, .int .i64 0, .int .i64 0]) ?_ 1 _ rfl; (with_reducible repeat (first | refine blk_drewN ?_ _ | refine blk_drew ?_ | refine blk_alloc ?_ _)); refine blk_put (cs := #[.int .i64 0, .int .i64 0, .int .i64 0, .int .i64 0]) ?_ 0 _ rfl; (with_reducible repeat (first | refine blk_drewN ?_ _ | refine blk_drew ?_ | refine blk_alloc ?_ _)); exact BK114.out⟩
               have n2_ : Aside0 (Below w.heap.size w ((((wx5f411.setCell ⟨gb114, 0, none⟩ (.int .i64 ((rd_T28 l0 x45_2).f0))).setCell ⟨gb114, 1, none⟩ (.int .i64 ((rd_T28 l0 x45_2).f1.f0))).setCell ⟨gb114, 2, none⟩ (.int .i64 ((rd_T28 l0 x45_2).f1.f1))).setCell ⟨gb114, 3, none⟩ (.int .i64 ((rd_T28 l0 x45_2).f2)))) := ⟨by repeat (first | (with_reducible first | exact HB.out | apply below_alloc | apply pw_below_drewN | apply below_drew1 | refine below_set ?_ GE114.out) | exact HB.out)⟩
               (try clear HO_11)
               (try clear BK114)
               (try clear HB)
               generalize ((((wx5f411.setCell ⟨gb114, 0, none⟩ (.int .i64 ((rd_T28 l0 x45_2).f0))).setCell ⟨gb114, 1, none⟩ (.int .i64 ((rd_T28 l0 x45_2).f1.f0))).setCell ⟨gb114, 2, none⟩ (.int .i64 ((rd_T28 l0 x45_2).f1.f1))).setCell ⟨gb114, 3, none⟩ (.int .i64 ((rd_T28 l0 x45_2).f2))) = wze1 at n0_ n1_ n2_ ⊢
               have HO_11 := n0_
               have BK114 := n1_
               have HB := n2_
               clear n0_ n1_ n2_
               have n0_ := Aside0.mk (Kd.R_drew HO_11.out)
               have n1_ := Aside0.mk (blk_drew BK114.out)
               have n2_ := Aside0.mk (below_drew1 HB.out)
               clear HO_11
               clear BK114
               clear HB
               have HO_11 := n0_
               have BK114 := n1_
               have HB := n2_
               clear n0_ n1_ n2_
               have p115 : 0 ≤ (0 : Int) := (by omega)
               have q115 : 0 < (l0.length : Int) := of_decide_eq_true (by first | (with_reducible assumption) | assumption)
               obtain ⟨ad115, e115, hx115_0, hx115_1, hx115_2, hx115_3⟩ := at_T28 HR0.out 0 p115 q115
               have hw115_3 := hx115_3
               (try rw [show ((0 : Int)).toNat = 0 from rfl] at hw115_3)
               (try rw [show 0 * 4 = 0 from rfl] at hw115_3)
               (try rw [Addr.add_zero'] at hw115_3)
               have hw115_2 := hx115_2
               (try rw [show ((0 : Int)).toNat = 0 from rfl] at hw115_2)
               (try rw [show 0 * 4 = 0 from rfl] at hw115_2)
               (try rw [Addr.add_zero'] at hw115_2)
               have hw115_1 := hx115_1
               (try rw [show ((0 : Int)).toNat = 0 from rfl] at hw115_1)
               (try rw [show 0 * 4 = 0 from rfl] at hw115_1)
               (try rw [Addr.add_zero'] at hw115_1)
               have hw115_0 := hx115_0
               (try rw [show ((0 : Int)).toNat = 0 from rfl] at hw115_0)
               (try rw [show 0 * 4 = 0 from rfl] at hw115_0)
               (try rw [Addr.add_zero'] at hw115_0)
               obtain rfl : ad113 = ad115 := (by injection e115)
               have qi115 : (0 < l0.length) = True := eq_true (by omega)
               (try rw [show ((0 : Int)).toNat = 0 from rfl] at hx115_0)
               (try rw [show 0 * 4 = 0 from rfl] at hx115_0)
               (try rw [Addr.add_zero'] at hx115_0)
               (try rw [show ((0 : Int)).toNat = 0 from rfl] at hx115_1)
               (try rw [show 0 * 4 = 0 from rfl] at hx115_1)
               (try rw [Addr.add_zero'] at hx115_1)
               (try rw [show ((0 : Int)).toNat = 0 from rfl] at hx115_2)
               (try rw [show 0 * 4 = 0 from rfl] at hx115_2)
               (try rw [Addr.add_zero'] at hx115_2)
               (try rw [show ((0 : Int)).toNat = 0 from rfl] at hx115_3)
               (try rw [show 0 * 4 = 0 from rfl] at hx115_3)
               (try rw [Addr.add_zero'] at hx115_3)
               replace hx115_0 := (HB.out.cell (World.block_lt_of_cell? w _ hx115_0)).trans hx115_0
               replace hx115_1 := (HB.out.cell (World.block_lt_of_cell? w _ hx115_1)).trans hx115_1
               replace hx115_2 := (HB.out.cell (World.block_lt_of_cell? w _ hx115_2)).trans hx115_2
               replace hx115_3 := (HB.out.cell (World.block_lt_of_cell? w _ hx115_3)).trans hx115_3
               replace p115 := eq_true p115
               replace q115 := eq_true q115
               refine start_ (n := 15) (S := fun w' => w'.cell? ⟨gb114, 0, none⟩ = some (.int .i64 ((rd_T28 l0 x45_2).f0)) ∧ w'.cell? ⟨gb114, 1, none⟩ = some (.int .i64 ((rd_T28 l0 x45_2).f1.f0)) ∧ w'.cell? ⟨gb114, 2, none⟩ = some (.int .i64 ((rd_T28 l0 x45_2).f1.f1)) ∧ w'.cell? ⟨gb114, 3, none⟩ = some (.int .i64 ((rd_T28 l0 x45_2).f2)) ∧ w'.cell? ad113 = some (.int .i64 ((rd_T28 l0 0).f0)) ∧ w'.cell? ⟨ad113.block, ad113.off + 1, none⟩ = some (.int .i64 ((rd_T28 l0 0).f1.f0)) ∧ w'.cell? ⟨ad113.block, ad113.off + 2, none⟩ = some (.int .i64 ((rd_T28 l0 0).f1.f1)) ∧ w'.cell? ⟨ad113.block, ad113.off + 3, none⟩ = some (.int .i64 ((rd_T28 l0 0).f2))) (ds := []) #[false, false, false, false, false, false, false, false, false, false, false, false, false, false, false] (by kernel_rfl) rfl rfl ⟨(blk_cell BK114.out 0).trans rfl, (blk_cell BK114.out 1).trans rfl, (blk_cell BK114.out 2).trans rfl, (blk_cell BK114.out 3).trans rfl, ((HB.out.cell (World.block_lt_of_cell? w _ hw115_0)).trans hw115_0), ((HB.out.cell (World.block_lt_of_cell? w _ hw115_1)).trans hw115_1), ((HB.out.cell (World.block_lt_of_cell? w _ hw115_2)).trans hw115_2), ((HB.out.cell (World.block_lt_of_cell? w _ hw115_3)).trans hw115_3)⟩ (fun hHeld => ?_); refine with_tabW tube_Of.tab10 tube_Of.bits10 (fun HT_ HW_ => ?_)
               generalize wze1.drew = wze2 at HO_11 BK114 HB hx115_0 hx115_1 hx115_2 hx115_3 hHeld ⊢
               refine pure_ (i := 0) (N := some 50) (v := ?_) (a' := ?_) #[true, false, false, false, false, false, false, false, false, false, false, false, false, false, false] rfl rfl (any_of HT_.out (by kernel_rfl)) (fun _ _ _ h => h) (Or.inl ⟨by rfl, ?_⟩) ?_ ?_
               rotate_left
               · intro w'
                 go_simp
                 with_reducible rfl
               rotate_left
               · simp only [Act.put, List.setIfInBounds_toArray, List.set_cons_zero, List.set_cons_succ, i64_w, i32_w]
                 rfl
               refine pure_ (i := 1) (N := some 51) (v := ?_) (a' := ?_) #[true, true, false, false, false, false, false, false, false, false, false, false, false, false, false] rfl rfl (any_of HT_.out (by kernel_rfl)) (fun _ _ _ h => h) (Or.inl ⟨by rfl, ?_⟩) ?_ ?_
               rotate_left
               · intro w'
                 go_simp
                 with_reducible rfl
               rotate_left
               · simp only [Act.put, List.setIfInBounds_toArray, List.set_cons_zero, List.set_cons_succ, i64_w, i32_w]
                 rfl
               refine pure_ (i := 3) (N := some 53) (v := ?_) (a' := ?_) #[true, true, false, true, false, false, false, false, false, false, false, false, false, false, false] rfl rfl (any_of HT_.out (by kernel_rfl)) (fun _ _ _ h => h) (Or.inl ⟨by rfl, ?_⟩) ?_ ?_
               rotate_left
               · intro w'
                 go_simp
                 with_reducible rfl
               rotate_left
               · simp only [Act.put, List.setIfInBounds_toArray, List.set_cons_zero, List.set_cons_succ, i64_w, i32_w]
                 rfl
               refine pure_ (i := 4) (N := some 54) (v := ?_) (a' := ?_) #[true, true, false, true, true, false, false, false, false, false, false, false, false, false, false] rfl rfl (any_of HT_.out (by kernel_rfl)) (fun _ _ _ h => h) (Or.inl ⟨by rfl, ?_⟩) ?_ ?_
               rotate_left
               · intro w'
                 go_simp
                 with_reducible rfl
               rotate_left
               · simp only [Act.put, List.setIfInBounds_toArray, List.set_cons_zero, List.set_cons_succ, i64_w, i32_w]
                 rfl
               refine pure_ (i := 5) (N := some 55) (v := ?_) (a' := ?_) #[true, true, false, true, true, true, false, false, false, false, false, false, false, false, false] rfl rfl (any_of HT_.out (by kernel_rfl)) (fun _ _ _ h => h) (Or.inl ⟨by rfl, ?_⟩) ?_ ?_
               rotate_left
               · intro w'
                 go_simp
                 with_reducible rfl
               rotate_left
               · simp only [Act.put, List.setIfInBounds_toArray, List.set_cons_zero, List.set_cons_succ, i64_w, i32_w]
                 rfl
               refine take_ (i := 2) (N := some 52) (v := ?_) (a' := ?_) #[true, true, true, true, true, true, false, false, false, false, false, false, false, false, false] rfl rfl (take_ofW HT_.out HW_.out (by kernel_rfl)) (fun _ _ _ h => h) (Or.inl ⟨by rfl, ?_⟩) hHeld ?_ ?_
               rotate_left
               · rintro w' ⟨s0, s1, s2, s3, s4, s5, s6, s7⟩
                 go_simp
                 with_reducible rfl
               rotate_left
               · simp only [Act.put, List.setIfInBounds_toArray, List.set_cons_zero, List.set_cons_succ, i64_w, i32_w]
                 rfl
               refine take_ (i := 6) (N := some 56) (v := ?_) (a' := ?_) #[true, true, true, true, true, true, true, false, false, false, false, false, false, false, false] rfl rfl (take_ofW HT_.out HW_.out (by kernel_rfl)) (fun _ _ _ h => h) (Or.inl ⟨by rfl, ?_⟩) hHeld ?_ ?_
               rotate_left
               · rintro w' ⟨s0, s1, s2, s3, s4, s5, s6, s7⟩
                 go_simp
                 with_reducible rfl
               rotate_left
               · simp only [Act.put, List.setIfInBounds_toArray, List.set_cons_zero, List.set_cons_succ, i64_w, i32_w]
                 rfl
               refine pure_ (i := 7) (N := some 57) (v := ?_) (a' := ?_) #[true, true, true, true, true, true, true, true, false, false, false, false, false, false, false] rfl rfl (any_of HT_.out (by kernel_rfl)) (fun _ _ _ h => h) (Or.inl ⟨by rfl, ?_⟩) ?_ ?_
               rotate_left
               · intro w'
                 go_simp
                 with_reducible rfl
               rotate_left
               · simp only [Act.put, List.setIfInBounds_toArray, List.set_cons_zero, List.set_cons_succ, i64_w, i32_w]
                 rfl
               refine pure_ (i := 8) (N := some 58) (v := ?_) (a' := ?_) #[true, true, true, true, true, true, true, true, true, false, false, false, false, false, false] rfl rfl (any_of HT_.out (by kernel_rfl)) (fun _ _ _ h => h) (Or.inl ⟨by rfl, ?_⟩) ?_ ?_
               rotate_left
               · intro w'
                 go_simp
                 with_reducible rfl
               rotate_left
               · simp only [Act.put, List.setIfInBounds_toArray, List.set_cons_zero, List.set_cons_succ, i64_w, i32_w]
                 rfl
               refine one_ (i := 9) (N := some 59) #[true, true, true, true, true, true, true, true, true, true, false, false, false, false, false] rfl rfl (one_of HT_.out (by kernel_rfl)) (by decide) (fun K hK => ?_)
               refine goes_ Try.func44 (by kernel_rfl) rfl #[.int .i64 (wrap64 (a2 * (wrap64 (((rd_T28 l0 x45_2).f0) - ((rd_T28 l0 0).f0))))), .int .i64 60] (by rfl) rfl rfl (by (try simp only [List.map_toArray, List.map_cons, List.map_nil]); first | done | rfl | (simp only [List.length_drop, List.length_take]; rfl)) ?_
               with_reducible refine (num_DivUp.calls k2 (wrap64 (a2 * (wrap64 (((rd_T28 l0 x45_2).f0) - ((rd_T28 l0 0).f0))))) 60 t116 t117 _ A19.out).mono ?_
               rintro e wze3 ⟨rfl, hb⟩
               refine ⟨_, rfl, ?_⟩
               have n0_ := Aside0.mk (Kd.R_below (by (with_reducible repeat (first | apply Kd.R_alloc | apply Kd.R_drewN | apply Kd.R_drew)); exact HO_11.out) hb)
               have n1_ := Aside0.mk (blk_below (g := gb114) (o := .cells #[.int .i64 ((rd_T28 l0 x45_2).f0), .int .i64 ((rd_T28 l0 x45_2).f1.f0), .int .i64 ((rd_T28 l0 x45_2).f1.f1), .int .i64 ((rd_T28 l0 x45_2).f2)] 28 (0, 0)) (by (with_reducible repeat (first | refine blk_drewN ?_ _ | refine blk_drew ?_ | refine blk_alloc ?_ _)); exact BK114.out) hb)
               have n2_ := Aside0.mk (below_step (by repeat (first | (with_reducible first | exact HB.out | apply below_alloc | apply pw_below_drewN | apply below_drew1 | refine below_set ?_ GE114.out) | exact HB.out)) hb)
               clear HO_11
               clear BK114
               clear HB
               have HO_11 := n0_
               have BK114 := n1_
               have HB := n2_
               clear n0_ n1_ n2_
               (try clear hb)
               (try clear hb2)
               (try clear hk)
               (try clear hi)
               refine hK.out _ _ ⟨(blk_cell BK114.out 0).trans rfl, (blk_cell BK114.out 1).trans rfl, (blk_cell BK114.out 2).trans rfl, (blk_cell BK114.out 3).trans rfl, ((HB.out.cell (World.block_lt_of_cell? w _ hw115_0)).trans hw115_0), ((HB.out.cell (World.block_lt_of_cell? w _ hw115_1)).trans hw115_1), ((HB.out.cell (World.block_lt_of_cell? w _ hw115_2)).trans hw115_2), ((HB.out.cell (World.block_lt_of_cell? w _ hw115_3)).trans hw115_3)⟩ (fun hHeld => ?_)
               clear hK K
               refine norm_ (a' := ?_) ?_ ?_
               rotate_left
               · show Act.put _ (some 59) _ = _
                 simp only [Act.put, List.setIfInBounds_toArray, List.set_cons_zero, List.set_cons_succ, i64_w, i32_w]
                 rfl
               refine pure_ (i := 10) (N := some 49) (v := ?_) (a' := ?_) #[true, true, true, true, true, true, true, true, true, true, true, false, false, false, false] rfl rfl (any_of HT_.out (by kernel_rfl)) (fun _ _ _ h => h) (Or.inl ⟨by rfl, ?_⟩) ?_ ?_
               rotate_left
               · intro w'
                 go_simp
                 with_reducible rfl
               rotate_left
               · simp only [Act.put, List.setIfInBounds_toArray, List.set_cons_zero, List.set_cons_succ, i64_w, i32_w]
                 rfl
               refine pure_ (i := 11) (N := some 60) (v := ?_) (a' := ?_) #[true, true, true, true, true, true, true, true, true, true, true, true, false, false, false] rfl rfl (any_of HT_.out (by kernel_rfl)) (fun _ _ _ h => h) (Or.inl ⟨by rfl, ?_⟩) ?_ ?_
               rotate_left
               · intro w'
                 go_simp
                 with_reducible rfl
               rotate_left
               · simp only [Act.put, List.setIfInBounds_toArray, List.set_cons_zero, List.set_cons_succ, i64_w, i32_w]
                 rfl
               refine pure_ (i := 12) (N := some 61) (v := ?_) (a' := ?_) #[true, true, true, true, true, true, true, true, true, true, true, true, true, false, false] rfl rfl (any_of HT_.out (by kernel_rfl)) (fun _ _ _ h => h) (Or.inl ⟨by rfl, ?_⟩) ?_ ?_
               rotate_left
               · intro w'
                 go_simp
                 with_reducible rfl
               rotate_left
               · simp only [Act.put, List.setIfInBounds_toArray, List.set_cons_zero, List.set_cons_succ, i64_w, i32_w]
                 rfl
               refine pure_ (i := 13) (N := some 14) (v := ?_) (a' := ?_) #[true, true, true, true, true, true, true, true, true, true, true, true, true, true, false] rfl rfl (any_of HT_.out (by kernel_rfl)) (fun _ _ _ h => h) (Or.inl ⟨by rfl, ?_⟩) ?_ ?_
               rotate_left
               · intro w'
                 go_simp
                 with_reducible rfl
               rotate_left
               · simp only [Act.put, List.setIfInBounds_toArray, List.set_cons_zero, List.set_cons_succ, i64_w, i32_w]
                 rfl
               refine pure_ (i := 14) (N := some 15) (v := ?_) (a' := ?_) #[true, true, true, true, true, true, true, true, true, true, true, true, true, true, true] rfl rfl (any_of HT_.out (by kernel_rfl)) (fun _ _ _ h => h) (Or.inl ⟨by rfl, ?_⟩) ?_ ?_
               rotate_left
               · intro w'
                 go_simp
                 with_reducible rfl
               rotate_left
               · simp only [Act.put, List.setIfInBounds_toArray, List.set_cons_zero, List.set_cons_succ, i64_w, i32_w]
                 rfl
               refine done_ (done_of HT_.out (by kernel_rfl)) ?_
               have hczze1 : wze3.cell? ⟨gb114, 0, none⟩ = some (.int .i64 ((rd_T28 l0 x45_2).f0)) := (blk_cell BK114.out 0).trans rfl
               have hczze2 : wze3.cell? ⟨gb114, 1, none⟩ = some (.int .i64 ((rd_T28 l0 x45_2).f1.f0)) := (blk_cell BK114.out 1).trans rfl
               have hczze3 : wze3.cell? ⟨gb114, 2, none⟩ = some (.int .i64 ((rd_T28 l0 x45_2).f1.f1)) := (blk_cell BK114.out 2).trans rfl
               have hczze4 : wze3.cell? ⟨gb114, 3, none⟩ = some (.int .i64 ((rd_T28 l0 x45_2).f2)) := (blk_cell BK114.out 3).trans rfl
               have hfzze1 := blk_frozen BK114.out 0
               have hfzze2 := blk_frozen BK114.out 1
               have hfzze3 := blk_frozen BK114.out 2
               have hfzze4 := blk_frozen BK114.out 3
               try go_wp2_with (first | ((with_reducible refine gate_builtin (b := .append) (xs := #[.tmp 62, .tmp 69]) rfl ?_); at_builtin; refine Kd.R_append k30 (w0 := w) w.heap.size rfl (.tmp 62) (.tmp 69) 23 30 (.agg #[(.int .i64 0), (.int .i64 0), (.int .i64 0), (.int .i64 0), (.int .i64 0), (.int .i64 0)]) 48 rfl Try.underlying23 info30 rfl (by decide) (by omega) u11 x11_2 (⟨(⟨(rd_T28 l0 x45_2).f0, (⟨(rd_T28 l0 x45_2).f1.f0, (rd_T28 l0 x45_2).f1.f1⟩ : S26), (rd_T28 l0 x45_2).f2⟩ : S28), wrap64 (a1 + t116), a3⟩ : S30) [.int .i64 ((rd_T28 l0 x45_2).f0), .int .i64 ((rd_T28 l0 x45_2).f1.f0), .int .i64 ((rd_T28 l0 x45_2).f1.f1), .int .i64 ((rd_T28 l0 x45_2).f2), .int .i64 (wrap64 (a1 + t116)), .int .i64 a3] (fun _ => True) (fun _ => False) rfl rfl ?aP (fun _ hk => hk.elim) ?aF ?aO ?aB ?aS ?aL ?_; (case aP => exact k30_mkM _ _ _ (⟨(⟨(rd_T28 l0 x45_2).f0, (⟨(rd_T28 l0 x45_2).f1.f0, (rd_T28 l0 x45_2).f1.f1⟩ : S26), (rd_T28 l0 x45_2).f2⟩ : S28), wrap64 (a1 + t116), a3⟩ : S30)); (case aB => exact (by repeat (first | (with_reducible first | exact HB.out | apply below_alloc | apply pw_below_drewN | apply below_drew1 | refine below_set ?_ GE114.out) | exact HB.out))); (case aF => exact (fun _ _ => trivial)); (case aO => exact (by (with_reducible repeat (first | apply Kd.R_alloc | apply Kd.R_drewN | apply Kd.R_drew)); exact HO_11.out)); (case aS => exact (below_size (by repeat (first | (with_reducible first | exact HB.out | apply below_alloc | apply pw_below_drewN | apply below_drew1 | refine below_set ?_ GE114.out) | exact HB.out)))); (case aL => have := LMc20.out; omega); intro v119 wx39cc1 ho hb hg hat; rw [← Ny118.out] at ho; have n0_ := Aside0.mk (blk_grown (g := gb114) (o := .cells #[.int .i64 ((rd_T28 l0 x45_2).f0), .int .i64 ((rd_T28 l0 x45_2).f1.f0), .int .i64 ((rd_T28 l0 x45_2).f1.f1), .int .i64 ((rd_T28 l0 x45_2).f2)] 28 (0, 0)) (by (with_reducible repeat (first | refine blk_drewN ?_ _ | refine blk_drew ?_ | refine blk_alloc ?_ _)); exact BK114.out) hg (Kd.R_ne HO_11.out BK114.out (by decide))); have n1_ := Aside0.mk (hb); have n2_ := Aside0.mk (ho); clear BK114; clear HB; clear HO_11; have BK114 := n0_; have HB := n1_; have HO120 := n2_; clear n0_ n1_ n2_; clear ho hb hg hat))
               go_roundg k2
               case measure => have := HJ6.out; have := HK2.out; omega
               case rel => exact ⟨(y118), (wrap64 (x45_2 + 1)), (by first | rfl | (simp; done) | (simp [*]; done)), H', ⟨by have := HJ6.out; have := HK2.out; omega⟩, ⟨by (with_reducible repeat (first | apply Kd.R_alloc | apply Kd.R_drewN | apply Kd.R_drew)); exact HO120.out⟩, ⟨by repeat (first | (with_reducible first | exact HB.out | apply below_alloc | apply pw_below_drewN | apply below_drew1 | refine below_set ?_ GE114.out) | exact HB.out)⟩⟩
             | (first | (have _hm := hm9_1) | (have _hm := hm9_2))
               go_wp2_with (first | ((with_reducible refine gate_callee (f := 20) rfl ?_); refine goesL_ (some 73) rfl rfl Try.func20 (by kernel_rfl) rfl #[.slice Aozc1 x11_2.length cozc1] rfl (by (try simp only [List.map_toArray, List.map_cons, List.map_nil]); first | done | rfl | (simp only [List.length_drop, List.length_take]; rfl)) ?_; (with_reducible refine (tube_Check.calls k2 _ _ x11_2 t121 _ ?side1 ?side2 A28.out).mono ?_); (case side1 => repeat (first | exact (Kd.R_reads' HO_11.out).2.2 | (with_reducible refine Kd.C_alloc ?_ _) | (with_reducible refine Kd.C_drewN ?_ _) | (with_reducible refine Kd.C_drew ?_))); (case side2 => exact (Kd.R_reads' HO_11.out).2.1); rintro e wx21921 ⟨rfl, hb⟩; refine ⟨_, rfl, ?_⟩; have n0_ := Aside0.mk (Kd.R_below (by (with_reducible repeat (first | apply Kd.R_alloc | apply Kd.R_drewN | apply Kd.R_drew)); exact HO_11.out) hb); have n1_ := Aside0.mk (below_step (by repeat (first | (with_reducible first | exact HB.out | apply below_alloc | apply pw_below_drewN | apply below_drew1) | exact HB.out)) hb); clear HO_11; clear HB; have HO_11 := n0_; have HB := n1_; clear n0_ n1_; (try clear hb); (try clear hb2); (try clear hk); (try clear hi)) | ((with_reducible refine gate_callee (f := 20) rfl ?_); refine goesL_ (some 73) rfl rfl Try.func20 (by kernel_rfl) rfl #[.slice Aozc2 x11_2.length cozc2] rfl (by (try simp only [List.map_toArray, List.map_cons, List.map_nil]); first | done | rfl | (simp only [List.length_drop, List.length_take]; rfl)) ?_; (with_reducible refine (tube_Check.calls k2 _ _ x11_2 t121 _ ?side1 ?side2 A28.out).mono ?_); (case side1 => repeat (first | exact (Kd.R_reads' HO_11.out).2.2 | (with_reducible refine Kd.C_alloc ?_ _) | (with_reducible refine Kd.C_drewN ?_ _) | (with_reducible refine Kd.C_drew ?_))); (case side2 => exact (Kd.R_reads' HO_11.out).2.1); rintro e wx34871 ⟨rfl, hb⟩; refine ⟨_, rfl, ?_⟩; have n0_ := Aside0.mk (Kd.R_below (by (with_reducible repeat (first | apply Kd.R_alloc | apply Kd.R_drewN | apply Kd.R_drew)); exact HO_11.out) hb); have n1_ := Aside0.mk (below_step (by repeat (first | (with_reducible first | exact HB.out | apply below_alloc | apply pw_below_drewN | apply below_drew1) | exact HB.out)) hb); clear HO_11; clear HB; have HO_11 := n0_; have HB := n1_; clear n0_ n1_; (try clear hb); (try clear hb2); (try clear hk); (try clear hi)))
               go_ret2
               first
                | clear hm9_1
                  exact ⟨_, by first | rfl | (simp [errW_none, errW_some] <;> rfl) | (simp [*, errW_none, errW_some] <;> rfl), by (with_reducible repeat (first | apply Kd.R_alloc | apply Kd.R_drewN | apply Kd.R_drew)); exact HO_11.out, by repeat (first | (with_reducible first | exact HB.out | apply below_alloc | apply pw_below_drewN | apply below_drew1) | exact HB.out)⟩
                | clear hm9_2
                  exact ⟨_, by first | rfl | (simp [errW_none, errW_some] <;> rfl) | (simp [*, errW_none, errW_some] <;> rfl), by first | exact Kd.R_nil _ _ _ _ _ | exact Kd.N_nil _ _ _ _ _ | exact Kd.V_nil _ _ _ _ _ | exact Kd.Q_nil _ _ _ _ _ | exact Kd.S_nil _ _ _ _ _, by repeat (first | (with_reducible first | exact HB.out | apply below_alloc | apply pw_below_drewN | apply below_drew1) | exact HB.out)⟩
   | clear hm1_1
     go_wp2_with (first | ((with_reducible refine gate_callee (f := 43) rfl ?_); refine goesL_ (some 17) rfl rfl Try.func43 (by kernel_rfl) rfl #[.slice A0 l0.length c0] rfl (by (try simp only [List.map_toArray, List.map_cons, List.map_nil]); first | done | rfl | (simp only [List.length_drop, List.length_take]; rfl)) ?_; (with_reducible refine (fly_Check.calls k _ _ l0 t112 _ ?side1 ?side2 A5.out).mono ?_); (case side1 => repeat (first | exact HR0.out | (with_reducible refine Kd.C_alloc ?_ _) | (with_reducible refine Kd.C_drewN ?_ _) | (with_reducible refine Kd.C_drew ?_))); (case side2 => exact HC0.out); rintro e wx64ba1 ⟨rfl, hb⟩; refine ⟨_, rfl, ?_⟩; have n0_ := Aside0.mk (below_step (by repeat (first | (with_reducible first | exact HB.out | apply below_alloc | apply pw_below_drewN | apply below_drew1) | exact HB.out)) hb); clear HB; have HB := n0_; clear n0_; (try clear hb); (try clear hb2); (try clear hk); (try clear hi)))
     go_ret2
     exact ⟨_, by first | rfl | (simp [errW_none, errW_some] <;> rfl) | (simp [*, errW_none, errW_some] <;> rfl), by first | exact Kd.R_nil _ _ _ _ _ | exact Kd.N_nil _ _ _ _ _ | exact Kd.V_nil _ _ _ _ _ | exact Kd.Q_nil _ _ _ _ _ | exact Kd.S_nil _ _ _ _ _, by repeat (first | (with_reducible first | exact HB.out | apply below_alloc | apply pw_below_drewN | apply below_drew1) | exact HB.out)⟩

/-! ### plane_Toward: function 56 -/
def plane_Toward.j0 : Nat → Int → Int → Bool → Int → Int → Int → Int → Option (Int × Int × Int)
  | 0, _, _, _, _, _, _, _ => none
  | k + 1, x2, x3, x18, x123000, x123001, x124000, x124001 => if x18 = true then (some (0, 0, 4)) else ((num_DivDown.f k (wrap64 ((wrap64 (x124000 - x123000)) * x2)) x3).bind fun bt127 => ((num_DivDown.f k (wrap64 ((wrap64 (x124001 - x123001)) * x2)) x3).bind fun bt129 => (some (wrap64 (x123000 + bt127.1), wrap64 (x123001 + bt129.1), 0))))
def plane_Toward.f (k : Nat) (a0_0 : Int) (a0_1 : Int) (a1_0 : Int) (a1_1 : Int) (a2 : Int) (a3 : Int) : Option (Int × Int × Int) := if a3 ≤ 0 then (some (0, 0, 10)) else (if a3 > 200000 then (plane_Toward.j0 k a2 a3 true a0_0 a0_1 a1_0 a1_1) else (if a2 < 0 then (plane_Toward.j0 k a2 a3 true a0_0 a0_1 a1_0 a1_1) else (if a2 > a3 then (plane_Toward.j0 k a2 a3 true a0_0 a0_1 a1_0 a1_1) else ((plane_Check.f a0_0 a0_1).bind fun t125 => (if t125 = 0 then ((plane_Check.f a1_0 a1_1).bind fun t126 => (plane_Toward.j0 k a2 a3 (t126 != 0) a0_0 a0_1 a1_0 a1_1)) else (plane_Toward.j0 k a2 a3 true a0_0 a0_1 a1_0 a1_1))))))
theorem plane_Toward.mono_l : ∀ k, (∀ y0 y1 y2 y3 y4 y5 y6, LeO (plane_Toward.j0 k y0 y1 y2 y3 y4 y5 y6) (plane_Toward.j0 (k + 1) y0 y1 y2 y3 y4 y5 y6))
  | 0 => fun _ _ _ _ _ _ _ r h => by simp [plane_Toward.j0] at h
  | k + 1 => by
    have ih0 := plane_Toward.mono_l k
    · intro y0 y1 y2 y3 y4 y5 y6
      unfold plane_Toward.j0
      repeat' first
      | (with_reducible exact ih0 _ _ _ _ _ _ _)
      | (with_reducible exact num_DivDown.mono _ _ _)
      | (with_reducible exact LeO.refl _)
      | (with_reducible exact LeO.none _)
      | (with_reducible refine LeO.ite ?_ ?_)
      | (with_reducible refine LeO.bind ?_ (fun _ => ?_))
      | exact ih0 _ _ _ _ _ _ _
      | exact num_DivDown.mono _ _ _
      | exact LeO.none _
      | refine LeO.ite ?_ ?_
      | refine LeO.bind ?_ (fun _ => ?_)
theorem plane_Toward.mono : ∀ a0 a1 a2 a3 a4 a5 k, LeO (plane_Toward.f k a0 a1 a2 a3 a4 a5) (plane_Toward.f (k + 1) a0 a1 a2 a3 a4 a5) := by
  intro a0 a1 a2 a3 a4 a5 k
  have ih0 := plane_Toward.mono_l k
  unfold plane_Toward.f
  repeat' first
      | (with_reducible exact ih0 _ _ _ _ _ _ _)
      | (with_reducible exact num_DivDown.mono _ _ _)
      | (with_reducible exact LeO.refl _)
      | (with_reducible exact LeO.none _)
      | (with_reducible refine LeO.ite ?_ ?_)
      | (with_reducible refine LeO.bind ?_ (fun _ => ?_))
      | exact ih0 _ _ _ _ _ _ _
      | exact num_DivDown.mono _ _ _
      | exact LeO.none _
      | refine LeO.ite ?_ ?_
      | refine LeO.bind ?_ (fun _ => ?_)
set_option maxHeartbeats 8000000 in
set_option maxRecDepth 100000 in
theorem plane_Toward.calls (k : Nat) (a0_0 : Int) (a0_1 : Int) (a1_0 : Int) (a1_1 : Int) (a2 : Int) (a3 : Int) (r1 : Int) (r2 : Int) (r3 : Int) (w : World) (h : plane_Toward.f k a0_0 a0_1 a1_0 a1_1 a2 a3 = some (r1, r2, r3)) :
    Calls Try.prog 56 #[.agg #[.int .i64 a0_0, .int .i64 a0_1], .agg #[.int .i64 a1_0, .int .i64 a1_1], .int .i64 a2, .int .i64 a3] w fun e w' => e = .returned (.tuple #[.agg #[.int .i64 r1, .int .i64 r2], .int .i64 r3]) ∧ Below w.heap.size w w' := by
 have hu26 := Try.underlying26
 have HB := Aside0.mk (Below.refl w.heap.size w)
 have H : (if a3 ≤ 0 then (some (0, 0, 10)) else (if a3 > 200000 then (plane_Toward.j0 k a2 a3 true a0_0 a0_1 a1_0 a1_1) else (if a2 < 0 then (plane_Toward.j0 k a2 a3 true a0_0 a0_1 a1_0 a1_1) else (if a2 > a3 then (plane_Toward.j0 k a2 a3 true a0_0 a0_1 a1_0 a1_1) else ((plane_Check.f a0_0 a0_1).bind fun t125 => (if t125 = 0 then ((plane_Check.f a1_0 a1_1).bind fun t126 => (plane_Toward.j0 k a2 a3 (t126 != 0) a0_0 a0_1 a1_0 a1_1)) else (plane_Toward.j0 k a2 a3 true a0_0 a0_1 a1_0 a1_1))))))) = some (r1, r2, r3) := h
 clear h
 refine Or.elim (Classical.em (a3 ≤ 0)) (fun c5 => ?p2_) (fun c5 => ?n2_)
 case' p2_ =>
  rw [if_pos c5] at H
  have c5b0 : decide (a3 ≤ 0) = true := decide_eq_true c5
  clear c5
  simp only [Option.some.injEq, Prod.mk.injEq] at H
  obtain ⟨rfl, rfl, rfl⟩ := H
  have hm1_0 := Aside0.mk trivial
 case' n2_ =>
  rw [if_neg c5] at H
  have c5b0 : decide (a3 ≤ 0) = false := decide_eq_false c5
  clear c5
  have HC12 := Aside0.mk H
  clear H
  have hm1_1 := Aside0.mk trivial
 all_goals
  go_enter Try.func56, Try.ntmps56
  first
   | clear hm1_0
     go_wp2_with (first | ((with_reducible refine gate_dst (N := 4) rfl ?_); refine box_event ?hg (N := 4) ?hd (cs := #[.int .i64 a0_0, .int .i64 a0_1]) (t := 26) ?hr ?_; (case hd => rfl); (case hg => rfl); (case hr => first | (go_simp; done) | (go_simp; rfl)); intro gb122 hg wx8f341 hbox hb; have n0_ := Aside0.mk (below_step (by repeat (first | (with_reducible first | exact HB.out | apply below_alloc | apply pw_below_drewN | apply below_drew1) | exact HB.out)) hb); have n1_ := Aside0.mk (hbox); have n2_ := Aside0.mk ((by rw [hg]; exact (below_size (by repeat (first | (with_reducible first | exact HB.out | apply below_alloc | apply pw_below_drewN | apply below_drew1) | exact HB.out))) : w.heap.size ≤ gb122)); have n3_ := Aside0.mk ((by rw [hg]; exact (below_size (by repeat (first | (with_reducible first | exact HB.out | apply below_alloc | apply pw_below_drewN | apply below_drew1) | exact HB.out))) : w.heap.size ≤ gb122)); clear HB; have HB := n0_; have BK122 := n1_; have GW122 := n2_; have GE122 := n3_; clear n0_ n1_ n2_ n3_; clear hb hbox hg) | ((with_reducible refine gate_dst (N := 5) rfl ?_); refine box_event ?hg (N := 5) ?hd (cs := #[.int .i64 a1_0, .int .i64 a1_1]) (t := 26) ?hr ?_; (case hd => rfl); (case hg => rfl); (case hr => first | (go_simp; done) | (go_simp; rfl)); intro gb123 hg wxeb661 hbox hb; have n0_ := Aside0.mk (blk_below (g := gb122) (o := .cells #[.int .i64 a0_0, .int .i64 a0_1] 26 (0, 0)) (by (with_reducible repeat (first | refine blk_drewN ?_ _ | refine blk_drew ?_ | refine blk_alloc ?_ _)); exact BK122.out) hb); have n1_ := Aside0.mk (below_step (by repeat (first | (with_reducible first | exact HB.out | apply below_alloc | apply pw_below_drewN | apply below_drew1 | refine below_set ?_ GE122.out) | exact HB.out)) hb); have n2_ := Aside0.mk (hbox); have n3_ := Aside0.mk ((by rw [hg]; exact (below_size (by repeat (first | (with_reducible first | exact HB.out | apply below_alloc | apply pw_below_drewN | apply below_drew1 | refine below_set ?_ GE122.out) | exact HB.out))) : w.heap.size ≤ gb123)); have n4_ := Aside0.mk ((by rw [hg]; exact (below_size (by repeat (first | (with_reducible first | exact HB.out | apply below_alloc | apply pw_below_drewN | apply below_drew1 | refine below_set ?_ GE122.out) | exact HB.out))) : w.heap.size ≤ gb123)); have n5_ := Aside0.mk ((by rw [hg]; exact Nat.ne_of_lt (blk_lt (g := gb122) (o := .cells #[.int .i64 a0_0, .int .i64 a0_1] 26 (0, 0)) (by (with_reducible repeat (first | refine blk_drewN ?_ _ | refine blk_drew ?_ | refine blk_alloc ?_ _)); exact BK122.out)) : gb122 ≠ gb123)); have n6_ := Aside0.mk ((by rw [hg]; exact Nat.ne_of_gt (blk_lt (g := gb122) (o := .cells #[.int .i64 a0_0, .int .i64 a0_1] 26 (0, 0)) (by (with_reducible repeat (first | refine blk_drewN ?_ _ | refine blk_drew ?_ | refine blk_alloc ?_ _)); exact BK122.out)) : gb123 ≠ gb122)); clear BK122; clear HB; have BK122 := n0_; have HB := n1_; have BK123 := n2_; have GW123 := n3_; have GE123 := n4_; have NB122_123 := n5_; have NB123_122 := n6_; clear n0_ n1_ n2_ n3_ n4_ n5_ n6_; clear hb hbox hg) | ((with_reducible refine gate_dst (N := 8) rfl ?_); refine box_event ?hg (N := 8) ?hd (cs := #[.int .i64 0, .int .i64 0]) (t := 26) ?hr ?_; (case hd => rfl); (case hg => rfl); (case hr => first | (go_simp; done) | (go_simp; rfl)); intro gb124 hg wx90621 hbox hb; have n0_ := Aside0.mk (blk_below (g := gb122) (o := .cells #[.int .i64 a0_0, .int .i64 a0_1] 26 (0, 0)) (by (with_reducible repeat (first | refine blk_drewN ?_ _ | refine blk_drew ?_ | refine blk_alloc ?_ _)); exact BK122.out) hb); have n1_ := Aside0.mk (blk_below (g := gb123) (o := .cells #[.int .i64 a1_0, .int .i64 a1_1] 26 (0, 0)) (by (with_reducible repeat (first | refine blk_drewN ?_ _ | refine blk_drew ?_ | refine blk_alloc ?_ _)); exact BK123.out) hb); have n2_ := Aside0.mk (below_step (by repeat (first | (with_reducible first | exact HB.out | apply below_alloc | apply pw_below_drewN | apply below_drew1 | refine below_set ?_ GE122.out | refine below_set ?_ GE123.out) | exact HB.out)) hb); have n3_ := Aside0.mk (hbox); have n4_ := Aside0.mk ((by rw [hg]; exact (below_size (by repeat (first | (with_reducible first | exact HB.out | apply below_alloc | apply pw_below_drewN | apply below_drew1 | refine below_set ?_ GE122.out | refine below_set ?_ GE123.out) | exact HB.out))) : w.heap.size ≤ gb124)); have n5_ := Aside0.mk ((by rw [hg]; exact (below_size (by repeat (first | (with_reducible first | exact HB.out | apply below_alloc | apply pw_below_drewN | apply below_drew1 | refine below_set ?_ GE122.out | refine below_set ?_ GE123.out) | exact HB.out))) : w.heap.size ≤ gb124)); have n6_ := Aside0.mk ((by rw [hg]; exact Nat.ne_of_lt (blk_lt (g := gb122) (o := .cells #[.int .i64 a0_0, .int .i64 a0_1] 26 (0, 0)) (by (with_reducible repeat (first | refine blk_drewN ?_ _ | refine blk_drew ?_ | refine blk_alloc ?_ _)); exact BK122.out)) : gb122 ≠ gb124)); have n7_ := Aside0.mk ((by rw [hg]; exact Nat.ne_of_gt (blk_lt (g := gb122) (o := .cells #[.int .i64 a0_0, .int .i64 a0_1] 26 (0, 0)) (by (with_reducible repeat (first | refine blk_drewN ?_ _ | refine blk_drew ?_ | refine blk_alloc ?_ _)); exact BK122.out)) : gb124 ≠ gb122)); have n8_ := Aside0.mk ((by rw [hg]; exact Nat.ne_of_lt (blk_lt (g := gb123) (o := .cells #[.int .i64 a1_0, .int .i64 a1_1] 26 (0, 0)) (by (with_reducible repeat (first | refine blk_drewN ?_ _ | refine blk_drew ?_ | refine blk_alloc ?_ _)); exact BK123.out)) : gb123 ≠ gb124)); have n9_ := Aside0.mk ((by rw [hg]; exact Nat.ne_of_gt (blk_lt (g := gb123) (o := .cells #[.int .i64 a1_0, .int .i64 a1_1] 26 (0, 0)) (by (with_reducible repeat (first | refine blk_drewN ?_ _ | refine blk_drew ?_ | refine blk_alloc ?_ _)); exact BK123.out)) : gb124 ≠ gb123)); clear BK122; clear BK123; clear HB; have BK122 := n0_; have BK123 := n1_; have HB := n2_; have BK124 := n3_; have GW124 := n4_; have GE124 := n5_; have NB122_124 := n6_; have NB124_122 := n7_; have NB123_124 := n8_; have NB124_123 := n9_; clear n0_ n1_ n2_ n3_ n4_ n5_ n6_ n7_ n8_ n9_; clear hb hbox hg; have hnbx90621 := NB124_122.out; have hncx90621 := NB122_124.out; have hnbx90622 := NB124_123.out; have hncx90622 := NB123_124.out; have hczx90621 : wx90621.cell? ⟨gb124, 0, none⟩ = some (.int .i64 0) := (blk_cell BK124.out 0).trans rfl; have hczx90622 : wx90621.cell? ⟨gb124, 1, none⟩ = some (.int .i64 0) := (blk_cell BK124.out 1).trans rfl; have hfzx90621 := blk_frozen BK124.out 0; have hfzx90622 := blk_frozen BK124.out 1))
     refine bodyPost_ret (results_ct rfl _ _ gb124 26 #[.int .i64 0, .int .i64 0] (0, 0) _ rfl (by (with_reducible repeat (first | refine blk_drewN ?_ _ | refine blk_drew ?_ | refine blk_alloc ?_ _)); refine blk_put (cs := #[.int .i64 0, .int .i64 0]) ?_ 1 _ rfl; (with_reducible repeat (first | refine blk_drewN ?_ _ | refine blk_drew ?_ | refine blk_alloc ?_ _)); refine blk_put (cs := #[.int .i64 0, .int .i64 0]) ?_ 0 _ rfl; (with_reducible repeat (first | refine blk_drewN ?_ _ | refine blk_drew ?_ | refine blk_alloc ?_ _)); exact BK124.out) Try.underlying26 rfl (by kernel_rfl)) rfl ?_
     exact ⟨by first | rfl | (simp [errW_none, errW_some] <;> rfl) | (simp [*, errW_none, errW_some] <;> rfl), by repeat (first | (with_reducible first | exact HB.out | apply below_alloc | apply pw_below_drewN | apply below_drew1 | refine below_set ?_ GE122.out | refine below_set ?_ GE123.out | refine below_set ?_ GE124.out) | exact HB.out)⟩
   | clear hm1_1
     go_upto_region 3 with (first | ((with_reducible refine gate_dst (N := 4) rfl ?_); refine box_event ?hg (N := 4) ?hd (cs := #[.int .i64 a0_0, .int .i64 a0_1]) (t := 26) ?hr ?_; (case hd => rfl); (case hg => rfl); (case hr => first | (go_simp; done) | (go_simp; rfl)); intro gb122 hg wx8f341 hbox hb; have n0_ := Aside0.mk (below_step (by repeat (first | (with_reducible first | exact HB.out | apply below_alloc | apply pw_below_drewN | apply below_drew1) | exact HB.out)) hb); have n1_ := Aside0.mk (hbox); have n2_ := Aside0.mk ((by rw [hg]; exact (below_size (by repeat (first | (with_reducible first | exact HB.out | apply below_alloc | apply pw_below_drewN | apply below_drew1) | exact HB.out))) : w.heap.size ≤ gb122)); have n3_ := Aside0.mk ((by rw [hg]; exact (below_size (by repeat (first | (with_reducible first | exact HB.out | apply below_alloc | apply pw_below_drewN | apply below_drew1) | exact HB.out))) : w.heap.size ≤ gb122)); clear HB; have HB := n0_; have BK122 := n1_; have GW122 := n2_; have GE122 := n3_; clear n0_ n1_ n2_ n3_; clear hb hbox hg) | ((with_reducible refine gate_dst (N := 5) rfl ?_); refine box_event ?hg (N := 5) ?hd (cs := #[.int .i64 a1_0, .int .i64 a1_1]) (t := 26) ?hr ?_; (case hd => rfl); (case hg => rfl); (case hr => first | (go_simp; done) | (go_simp; rfl)); intro gb123 hg wxeb661 hbox hb; have n0_ := Aside0.mk (blk_below (g := gb122) (o := .cells #[.int .i64 a0_0, .int .i64 a0_1] 26 (0, 0)) (by (with_reducible repeat (first | refine blk_drewN ?_ _ | refine blk_drew ?_ | refine blk_alloc ?_ _)); exact BK122.out) hb); have n1_ := Aside0.mk (below_step (by repeat (first | (with_reducible first | exact HB.out | apply below_alloc | apply pw_below_drewN | apply below_drew1 | refine below_set ?_ GE122.out) | exact HB.out)) hb); have n2_ := Aside0.mk (hbox); have n3_ := Aside0.mk ((by rw [hg]; exact (below_size (by repeat (first | (with_reducible first | exact HB.out | apply below_alloc | apply pw_below_drewN | apply below_drew1 | refine below_set ?_ GE122.out) | exact HB.out))) : w.heap.size ≤ gb123)); have n4_ := Aside0.mk ((by rw [hg]; exact (below_size (by repeat (first | (with_reducible first | exact HB.out | apply below_alloc | apply pw_below_drewN | apply below_drew1 | refine below_set ?_ GE122.out) | exact HB.out))) : w.heap.size ≤ gb123)); have n5_ := Aside0.mk ((by rw [hg]; exact Nat.ne_of_lt (blk_lt (g := gb122) (o := .cells #[.int .i64 a0_0, .int .i64 a0_1] 26 (0, 0)) (by (with_reducible repeat (first | refine blk_drewN ?_ _ | refine blk_drew ?_ | refine blk_alloc ?_ _)); exact BK122.out)) : gb122 ≠ gb123)); have n6_ := Aside0.mk ((by rw [hg]; exact Nat.ne_of_gt (blk_lt (g := gb122) (o := .cells #[.int .i64 a0_0, .int .i64 a0_1] 26 (0, 0)) (by (with_reducible repeat (first | refine blk_drewN ?_ _ | refine blk_drew ?_ | refine blk_alloc ?_ _)); exact BK122.out)) : gb123 ≠ gb122)); clear BK122; clear HB; have BK122 := n0_; have HB := n1_; have BK123 := n2_; have GW123 := n3_; have GE123 := n4_; have NB122_123 := n5_; have NB123_122 := n6_; clear n0_ n1_ n2_ n3_ n4_ n5_ n6_; clear hb hbox hg) | ((with_reducible refine gate_dst (N := 8) rfl ?_); refine box_event ?hg (N := 8) ?hd (cs := #[.int .i64 0, .int .i64 0]) (t := 26) ?hr ?_; (case hd => rfl); (case hg => rfl); (case hr => first | (go_simp; done) | (go_simp; rfl)); intro gb124 hg wxe9541 hbox hb; have n0_ := Aside0.mk (blk_below (g := gb122) (o := .cells #[.int .i64 a0_0, .int .i64 a0_1] 26 (0, 0)) (by (with_reducible repeat (first | refine blk_drewN ?_ _ | refine blk_drew ?_ | refine blk_alloc ?_ _)); exact BK122.out) hb); have n1_ := Aside0.mk (blk_below (g := gb123) (o := .cells #[.int .i64 a1_0, .int .i64 a1_1] 26 (0, 0)) (by (with_reducible repeat (first | refine blk_drewN ?_ _ | refine blk_drew ?_ | refine blk_alloc ?_ _)); exact BK123.out) hb); have n2_ := Aside0.mk (below_step (by repeat (first | (with_reducible first | exact HB.out | apply below_alloc | apply pw_below_drewN | apply below_drew1 | refine below_set ?_ GE122.out | refine below_set ?_ GE123.out) | exact HB.out)) hb); have n3_ := Aside0.mk (hbox); have n4_ := Aside0.mk ((by rw [hg]; exact (below_size (by repeat (first | (with_reducible first | exact HB.out | apply below_alloc | apply pw_below_drewN | apply below_drew1 | refine below_set ?_ GE122.out | refine below_set ?_ GE123.out) | exact HB.out))) : w.heap.size ≤ gb124)); have n5_ := Aside0.mk ((by rw [hg]; exact (below_size (by repeat (first | (with_reducible first | exact HB.out | apply below_alloc | apply pw_below_drewN | apply below_drew1 | refine below_set ?_ GE122.out | refine below_set ?_ GE123.out) | exact HB.out))) : w.heap.size ≤ gb124)); have n6_ := Aside0.mk ((by rw [hg]; exact Nat.ne_of_lt (blk_lt (g := gb122) (o := .cells #[.int .i64 a0_0, .int .i64 a0_1] 26 (0, 0)) (by (with_reducible repeat (first | refine blk_drewN ?_ _ | refine blk_drew ?_ | refine blk_alloc ?_ _)); exact BK122.out)) : gb122 ≠ gb124)); have n7_ := Aside0.mk ((by rw [hg]; exact Nat.ne_of_gt (blk_lt (g := gb122) (o := .cells #[.int .i64 a0_0, .int .i64 a0_1] 26 (0, 0)) (by (with_reducible repeat (first | refine blk_drewN ?_ _ | refine blk_drew ?_ | refine blk_alloc ?_ _)); exact BK122.out)) : gb124 ≠ gb122)); have n8_ := Aside0.mk ((by rw [hg]; exact Nat.ne_of_lt (blk_lt (g := gb123) (o := .cells #[.int .i64 a1_0, .int .i64 a1_1] 26 (0, 0)) (by (with_reducible repeat (first | refine blk_drewN ?_ _ | refine blk_drew ?_ | refine blk_alloc ?_ _)); exact BK123.out)) : gb123 ≠ gb124)); have n9_ := Aside0.mk ((by rw [hg]; exact Nat.ne_of_gt (blk_lt (g := gb123) (o := .cells #[.int .i64 a1_0, .int .i64 a1_1] 26 (0, 0)) (by (with_reducible repeat (first | refine blk_drewN ?_ _ | refine blk_drew ?_ | refine blk_alloc ?_ _)); exact BK123.out)) : gb124 ≠ gb123)); clear BK122; clear BK123; clear HB; have BK122 := n0_; have BK123 := n1_; have HB := n2_; have BK124 := n3_; have GW124 := n4_; have GE124 := n5_; have NB122_124 := n6_; have NB124_122 := n7_; have NB123_124 := n8_; have NB124_123 := n9_; clear n0_ n1_ n2_ n3_ n4_ n5_ n6_ n7_ n8_ n9_; clear hb hbox hg))
     (try simp only [Act.put, List.setIfInBounds_toArray, List.set_cons_zero, List.set_cons_succ])
     go_cut [18] (fun v18 wc => ∃ (kq : Nat) (x18_11 : Bool), v18 = .bool x18_11 ∧ Aside0 (plane_Toward.j0 kq a2 a3 x18_11 a0_0 a0_1 a1_0 a1_1 = some (r1, r2, r3)) ∧ Aside0 (kq ≤ k) ∧ Aside0 (wc.heap[gb122]? = some (.cells #[.int .i64 a0_0, .int .i64 a0_1] 26 (0, 0))) ∧ Aside0 (wc.heap[gb123]? = some (.cells #[.int .i64 a1_0, .int .i64 a1_1] 26 (0, 0))) ∧ Aside0 (wc.heap[gb124]? = some (.cells #[.int .i64 0, .int .i64 0] 26 (0, 0))) ∧ Aside0 (Below w.heap.size w wc))
     case first =>
      have H := HC12.out
      clear HC12
      refine Or.elim (Classical.em (a3 > 200000)) (fun c16 => ?p4_) (fun c16 => ?n4_)
      case' p4_ =>
       rw [if_pos c16] at H
       have c16b0 : decide (200000 < a3) = true := decide_eq_true c16
       clear c16
       (first | rw [c16b0] | (simp only [i64_w, i32_w]; rw [c16b0]) | skip)
       have hm3_0 := Aside0.mk trivial
      case' n4_ =>
       rw [if_neg c16] at H
       have c16b0 : decide (200000 < a3) = false := decide_eq_false c16
       clear c16
       (first | rw [c16b0] | (simp only [i64_w, i32_w]; rw [c16b0]) | skip)
       refine Or.elim (Classical.em (a2 < 0)) (fun c17 => ?p5_) (fun c17 => ?n5_)
       case' p5_ =>
        rw [if_pos c17] at H
        have c17b0 : decide (a2 < 0) = true := decide_eq_true c17
        clear c17
        have hm3_0 := Aside0.mk trivial
       case' n5_ =>
        rw [if_neg c17] at H
        have c17b0 : decide (a2 < 0) = false := decide_eq_false c17
        clear c17
        refine Or.elim (Classical.em (a2 > a3)) (fun c18 => ?p6_) (fun c18 => ?n6_)
        case' p6_ =>
         rw [if_pos c18] at H
         have c18b0 : decide (a3 < a2) = true := decide_eq_true c18
         clear c18
         have hm3_0 := Aside0.mk trivial
        case' n6_ =>
         rw [if_neg c18] at H
         have c18b0 : decide (a3 < a2) = false := decide_eq_false c18
         clear c18
         replace H := Option.bind_eq_some_iff.mp H
         obtain ⟨t125, A190, H⟩ := H
         replace H : (if t125 = 0 then ((plane_Check.f a1_0 a1_1).bind fun t126 => (plane_Toward.j0 k a2 a3 (t126 != 0) a0_0 a0_1 a1_0 a1_1)) else (plane_Toward.j0 k a2 a3 true a0_0 a0_1 a1_0 a1_1)) = some (r1, r2, r3) := H
         have A19 := Aside0.mk A190
         clear A190
         refine Or.elim (Classical.em (t125 = 0)) (fun c20 => ?p7_) (fun c20 => ?n7_)
         case' p7_ =>
          rw [if_pos c20] at H
          have c20b0 : (t125 == 0) = true := beq_iff_eq.mpr c20
          have c20b1 : (t125 != 0) = false := bne_eq_false_iff_eq.mpr c20
          clear c20
          replace H := Option.bind_eq_some_iff.mp H
          obtain ⟨t126, A210, H⟩ := H
          replace H : (plane_Toward.j0 k a2 a3 (t126 != 0) a0_0 a0_1 a1_0 a1_1) = some (r1, r2, r3) := H
          have A21 := Aside0.mk A210
          clear A210
          have hm3_1 := Aside0.mk trivial
         case' n7_ =>
          rw [if_neg c20] at H
          have c20b0 : (t125 == 0) = false := beq_eq_false_iff_ne.mpr c20
          have c20b1 : (t125 != 0) = true := bne_iff_ne.mpr c20
          have hm3_1 := Aside0.mk trivial
      all_goals
       have H' := Aside0.mk H
       clear H
       first
        | clear hm3_0
          go_wp2
          go_meet
          case rel => exact ⟨_, (true), (by first | rfl | (simp; done) | (simp [*]; done)), H', ⟨by first | omega | exact Nat.le_refl _⟩, ⟨by (with_reducible repeat (first | refine blk_drewN ?_ _ | refine blk_drew ?_ | refine blk_alloc ?_ _)); exact BK122.out⟩, ⟨by (with_reducible repeat (first | refine blk_drewN ?_ _ | refine blk_drew ?_ | refine blk_alloc ?_ _)); exact BK123.out⟩, ⟨by (with_reducible repeat (first | refine blk_drewN ?_ _ | refine blk_drew ?_ | refine blk_alloc ?_ _)); exact BK124.out⟩, ⟨by repeat (first | (with_reducible first | exact HB.out | apply below_alloc | apply pw_below_drewN | apply below_drew1 | refine below_set ?_ GE122.out | refine below_set ?_ GE123.out | refine below_set ?_ GE124.out) | exact HB.out)⟩⟩
        | clear hm3_1
          have hnbzb1 := NB122_123.out
          have hnczb1 := NB123_122.out
          have hnbzb2 := NB122_124.out
          have hnczb2 := NB124_122.out
          have hczzb1 : wxe9541.cell? ⟨gb122, 0, none⟩ = some (.int .i64 a0_0) := (blk_cell BK122.out 0).trans rfl
          have hczzb2 : wxe9541.cell? ⟨gb122, 1, none⟩ = some (.int .i64 a0_1) := (blk_cell BK122.out 1).trans rfl
          have hfzzb1 := blk_frozen BK122.out 0
          have hfzzb2 := blk_frozen BK122.out 1
          go_wp2_with (first | (go_at_call 42; (with_reducible refine (plane_Check.calls a1_0 a1_1 t126 _ A21.out).mono ?_); rintro e wx01f61 ⟨rfl, hb⟩; have n0_ := Aside0.mk (blk_below (g := gb122) (o := .cells #[.int .i64 a0_0, .int .i64 a0_1] 26 (0, 0)) (by (with_reducible repeat (first | refine blk_drewN ?_ _ | refine blk_drew ?_ | refine blk_alloc ?_ _)); exact BK122.out) hb); have n1_ := Aside0.mk (blk_below (g := gb123) (o := .cells #[.int .i64 a1_0, .int .i64 a1_1] 26 (0, 0)) (by (with_reducible repeat (first | refine blk_drewN ?_ _ | refine blk_drew ?_ | refine blk_alloc ?_ _)); exact BK123.out) hb); have n2_ := Aside0.mk (blk_below (g := gb124) (o := .cells #[.int .i64 0, .int .i64 0] 26 (0, 0)) (by (with_reducible repeat (first | refine blk_drewN ?_ _ | refine blk_drew ?_ | refine blk_alloc ?_ _)); exact BK124.out) hb); have n3_ := Aside0.mk (below_step (by repeat (first | (with_reducible first | exact HB.out | apply below_alloc | apply pw_below_drewN | apply below_drew1 | refine below_set ?_ GE122.out | refine below_set ?_ GE123.out | refine below_set ?_ GE124.out) | exact HB.out)) hb); clear BK122; clear BK123; clear BK124; clear HB; have BK122 := n0_; have BK123 := n1_; have BK124 := n2_; have HB := n3_; clear n0_ n1_ n2_ n3_; (try clear hb); (try clear hb2); (try clear hk); (try clear hi)) | (go_at_call 42; (with_reducible refine (plane_Check.calls a0_0 a0_1 t125 _ A19.out).mono ?_); rintro e wx612a1 ⟨rfl, hb⟩; have n0_ := Aside0.mk (blk_below (g := gb122) (o := .cells #[.int .i64 a0_0, .int .i64 a0_1] 26 (0, 0)) (by (with_reducible repeat (first | refine blk_drewN ?_ _ | refine blk_drew ?_ | refine blk_alloc ?_ _)); exact BK122.out) hb); have n1_ := Aside0.mk (blk_below (g := gb123) (o := .cells #[.int .i64 a1_0, .int .i64 a1_1] 26 (0, 0)) (by (with_reducible repeat (first | refine blk_drewN ?_ _ | refine blk_drew ?_ | refine blk_alloc ?_ _)); exact BK123.out) hb); have n2_ := Aside0.mk (blk_below (g := gb124) (o := .cells #[.int .i64 0, .int .i64 0] 26 (0, 0)) (by (with_reducible repeat (first | refine blk_drewN ?_ _ | refine blk_drew ?_ | refine blk_alloc ?_ _)); exact BK124.out) hb); have n3_ := Aside0.mk (below_step (by repeat (first | (with_reducible first | exact HB.out | apply below_alloc | apply pw_below_drewN | apply below_drew1 | refine below_set ?_ GE122.out | refine below_set ?_ GE123.out | refine below_set ?_ GE124.out) | exact HB.out)) hb); clear BK122; clear BK123; clear BK124; clear HB; have BK122 := n0_; have BK123 := n1_; have BK124 := n2_; have HB := n3_; clear n0_ n1_ n2_ n3_; (try clear hb); (try clear hb2); (try clear hk); (try clear hi); have hnby538940 := NB123_124.out; have hncy538941 := NB124_123.out; have hczy538942 : wx612a1.cell? ⟨gb123, 0, none⟩ = some (.int .i64 a1_0) := (blk_cell BK123.out 0).trans rfl; have hczy538943 : wx612a1.cell? ⟨gb123, 1, none⟩ = some (.int .i64 a1_1) := (blk_cell BK123.out 1).trans rfl; have hfzy538944 := blk_frozen BK123.out 0; have hfzy538945 := blk_frozen BK123.out 1))
          go_meet
          case rel => first | (exact ⟨_, ((t126 != 0)), (by first | rfl | (simp; done) | (simp [*]; done)), H', ⟨by first | omega | exact Nat.le_refl _⟩, ⟨by (with_reducible repeat (first | refine blk_drewN ?_ _ | refine blk_drew ?_ | refine blk_alloc ?_ _)); exact BK122.out⟩, ⟨by (with_reducible repeat (first | refine blk_drewN ?_ _ | refine blk_drew ?_ | refine blk_alloc ?_ _)); exact BK123.out⟩, ⟨by (with_reducible repeat (first | refine blk_drewN ?_ _ | refine blk_drew ?_ | refine blk_alloc ?_ _)); exact BK124.out⟩, ⟨by repeat (first | (with_reducible first | exact HB.out | apply below_alloc | apply pw_below_drewN | apply below_drew1 | refine below_set ?_ GE122.out | refine below_set ?_ GE123.out | refine below_set ?_ GE124.out) | exact HB.out)⟩⟩) | (exact ⟨_, (true), (by first | rfl | (simp; done) | (simp [*]; done)), H', ⟨by first | omega | exact Nat.le_refl _⟩, ⟨by (with_reducible repeat (first | refine blk_drewN ?_ _ | refine blk_drew ?_ | refine blk_alloc ?_ _)); exact BK122.out⟩, ⟨by (with_reducible repeat (first | refine blk_drewN ?_ _ | refine blk_drew ?_ | refine blk_alloc ?_ _)); exact BK123.out⟩, ⟨by (with_reducible repeat (first | refine blk_drewN ?_ _ | refine blk_drew ?_ | refine blk_alloc ?_ _)); exact BK124.out⟩, ⟨by repeat (first | (with_reducible first | exact HB.out | apply below_alloc | apply pw_below_drewN | apply below_drew1 | refine below_set ?_ GE122.out | refine below_set ?_ GE123.out | refine below_set ?_ GE124.out) | exact HB.out)⟩⟩)
     case rest =>
      clear HC12
      (try clear c1); (try clear c2); (try clear p2); (try clear c3); (try clear c5); (try clear c5b0); (try clear c9); (try clear c10); (try clear c16); (try clear c16b0); (try clear c17); (try clear c17b0); (try clear c18); (try clear c18b0); (try clear c20); (try clear c20b0); (try clear c20b1); (try clear c22); (try clear c23); (try clear c26); (try clear c29); (try clear c30); (try clear hczza5); (try clear hczza6); (try clear hczza1); (try clear hczza2); (try clear hczx612a1); (try clear hczx612a2); (try clear hczza3); (try clear hczza4); (try clear hfzza5); (try clear hfzza6); (try clear hfzza1); (try clear hfzza2); (try clear hfzx612a1); (try clear hfzx612a2); (try clear hfzza3); (try clear hfzza4)
      obtain ⟨kq, x18_11, rfl, HA, HJ11, BK122, BK123, BK124, HB⟩ := hcut
      cases kq with
      | zero => exact absurd HA.out (by simp [plane_Toward.j0])
      | succ kj11 =>
       have H := HA.out
       clear HA
       simp only [plane_Toward.j0] at H
       by_cases c33 : x18_11 = true
       · subst c33
         have H1 : (some (0, 0, 4)) = some (r1, r2, r3) := by rw [if_pos rfl] at H; exact H
         clear H
         have H := H1
         clear H1
         simp only [Option.some.injEq, Prod.mk.injEq] at H
         obtain ⟨rfl, rfl, rfl⟩ := H
         have hnbza5 := NB124_122.out
         have hncza5 := NB122_124.out
         have hnbza6 := NB124_123.out
         have hncza6 := NB123_124.out
         have hczza7 : wc.cell? ⟨gb124, 0, none⟩ = some (.int .i64 0) := (blk_cell BK124.out 0).trans rfl
         have hczza8 : wc.cell? ⟨gb124, 1, none⟩ = some (.int .i64 0) := (blk_cell BK124.out 1).trans rfl
         have hfzza7 := blk_frozen BK124.out 0
         have hfzza8 := blk_frozen BK124.out 1
         go_wp2
         refine bodyPost_ret (results_ct rfl _ _ gb124 26 #[.int .i64 0, .int .i64 0] (0, 0) _ rfl (by (with_reducible repeat (first | refine blk_drewN ?_ _ | refine blk_drew ?_ | refine blk_alloc ?_ _)); refine blk_put (cs := #[.int .i64 0, .int .i64 0]) ?_ 1 _ rfl; (with_reducible repeat (first | refine blk_drewN ?_ _ | refine blk_drew ?_ | refine blk_alloc ?_ _)); refine blk_put (cs := #[.int .i64 0, .int .i64 0]) ?_ 0 _ rfl; (with_reducible repeat (first | refine blk_drewN ?_ _ | refine blk_drew ?_ | refine blk_alloc ?_ _)); exact BK124.out) Try.underlying26 rfl (by kernel_rfl)) rfl ?_
         exact ⟨by first | rfl | (simp [errW_none, errW_some] <;> rfl) | (simp [*, errW_none, errW_some] <;> rfl), by repeat (first | (with_reducible first | exact HB.out | apply below_alloc | apply pw_below_drewN | apply below_drew1 | refine below_set ?_ GE122.out | refine below_set ?_ GE123.out | refine below_set ?_ GE124.out) | exact HB.out)⟩
       · replace c33 := Bool.eq_false_iff.mpr c33
         subst c33
         have H1 : ((num_DivDown.f kj11 (wrap64 ((wrap64 (a1_0 - a0_0)) * a2)) a3).bind fun bt127 => ((num_DivDown.f kj11 (wrap64 ((wrap64 (a1_1 - a0_1)) * a2)) a3).bind fun bt129 => (some (wrap64 (a0_0 + bt127.1), wrap64 (a0_1 + bt129.1), 0)))) = some (r1, r2, r3) := by rw [if_neg (show ¬ (false = true) by decide)] at H; exact H
         clear H
         have H := H1
         clear H1
         replace H := Option.bind_eq_some_iff.mp H
         obtain ⟨⟨t127, t128⟩, A370, H⟩ := H
         replace H : ((num_DivDown.f kj11 (wrap64 ((wrap64 (a1_1 - a0_1)) * a2)) a3).bind fun bt129 => (some (wrap64 (a0_0 + t127), wrap64 (a0_1 + bt129.1), 0))) = some (r1, r2, r3) := H
         have A37 := Aside0.mk A370
         clear A370
         replace H := Option.bind_eq_some_iff.mp H
         obtain ⟨⟨t129, t130⟩, A380, H⟩ := H
         replace H : (some (wrap64 (a0_0 + t127), wrap64 (a0_1 + t129), 0)) = some (r1, r2, r3) := H
         have A38 := Aside0.mk A380
         clear A380
         simp only [Option.some.injEq, Prod.mk.injEq] at H
         obtain ⟨rfl, rfl, rfl⟩ := H
         have hnbza7 := NB123_122.out
         have hncza7 := NB122_123.out
         have hnbza8 := NB123_124.out
         have hncza8 := NB124_123.out
         have hczza9 : wc.cell? ⟨gb123, 0, none⟩ = some (.int .i64 a1_0) := (blk_cell BK123.out 0).trans rfl
         have hczza10 : wc.cell? ⟨gb123, 1, none⟩ = some (.int .i64 a1_1) := (blk_cell BK123.out 1).trans rfl
         have hfzza9 := blk_frozen BK123.out 0
         have hfzza10 := blk_frozen BK123.out 1
         have hnbza9 := NB122_124.out
         have hncza9 := NB124_122.out
         have hczza11 : wc.cell? ⟨gb122, 0, none⟩ = some (.int .i64 a0_0) := (blk_cell BK122.out 0).trans rfl
         have hczza12 : wc.cell? ⟨gb122, 1, none⟩ = some (.int .i64 a0_1) := (blk_cell BK122.out 1).trans rfl
         have hfzza11 := blk_frozen BK122.out 0
         have hfzza12 := blk_frozen BK122.out 1
         go_wp2_with (first | ((with_reducible refine gate_callee (f := 59) rfl ?_); refine goesL_ (some 50) rfl rfl Try.func59 (by kernel_rfl) rfl #[.int .i64 (wrap64 ((wrap64 (a1_0 - a0_0)) * a2)), .int .i64 a3] rfl (by (try simp only [List.map_toArray, List.map_cons, List.map_nil]); first | done | rfl | (simp only [List.length_drop, List.length_take]; rfl)) ?_; (with_reducible refine (num_DivDown.calls kj11 (wrap64 ((wrap64 (a1_0 - a0_0)) * a2)) a3 t127 t128 _ A37.out).mono ?_); rintro e wx3d561 ⟨rfl, hb⟩; refine ⟨_, rfl, ?_⟩; have n0_ := Aside0.mk (blk_below (g := gb122) (o := .cells #[.int .i64 a0_0, .int .i64 a0_1] 26 (0, 0)) (by (with_reducible repeat (first | refine blk_drewN ?_ _ | refine blk_drew ?_ | refine blk_alloc ?_ _)); exact BK122.out) hb); have n1_ := Aside0.mk (blk_below (g := gb123) (o := .cells #[.int .i64 a1_0, .int .i64 a1_1] 26 (0, 0)) (by (with_reducible repeat (first | refine blk_drewN ?_ _ | refine blk_drew ?_ | refine blk_alloc ?_ _)); exact BK123.out) hb); have n2_ := Aside0.mk (blk_below (g := gb124) (o := .cells #[.int .i64 0, .int .i64 0] 26 (0, 0)) (by (with_reducible repeat (first | refine blk_drewN ?_ _ | refine blk_drew ?_ | refine blk_alloc ?_ _)); exact BK124.out) hb); have n3_ := Aside0.mk (below_step (by repeat (first | (with_reducible first | exact HB.out | apply below_alloc | apply pw_below_drewN | apply below_drew1 | refine below_set ?_ GE122.out | refine below_set ?_ GE123.out | refine below_set ?_ GE124.out) | exact HB.out)) hb); clear BK122; clear BK123; clear BK124; clear HB; have BK122 := n0_; have BK123 := n1_; have BK124 := n2_; have HB := n3_; clear n0_ n1_ n2_ n3_; (try clear hb); (try clear hb2); (try clear hk); (try clear hi); have hczx3d561 : wx3d561.cell? ⟨gb123, 0, none⟩ = some (.int .i64 a1_0) := (blk_cell BK123.out 0).trans rfl; have hczx3d562 : wx3d561.cell? ⟨gb123, 1, none⟩ = some (.int .i64 a1_1) := (blk_cell BK123.out 1).trans rfl; have hfzx3d561 := blk_frozen BK123.out 0; have hfzx3d562 := blk_frozen BK123.out 1; have hczx3d563 : wx3d561.cell? ⟨gb122, 0, none⟩ = some (.int .i64 a0_0) := (blk_cell BK122.out 0).trans rfl; have hczx3d564 : wx3d561.cell? ⟨gb122, 1, none⟩ = some (.int .i64 a0_1) := (blk_cell BK122.out 1).trans rfl; have hfzx3d563 := blk_frozen BK122.out 0; have hfzx3d564 := blk_frozen BK122.out 1) | ((with_reducible refine gate_callee (f := 59) rfl ?_); refine goesL_ (some 62) rfl rfl Try.func59 (by kernel_rfl) rfl #[.int .i64 (wrap64 ((wrap64 (a1_1 - a0_1)) * a2)), .int .i64 a3] rfl (by (try simp only [List.map_toArray, List.map_cons, List.map_nil]); first | done | rfl | (simp only [List.length_drop, List.length_take]; rfl)) ?_; (with_reducible refine (num_DivDown.calls kj11 (wrap64 ((wrap64 (a1_1 - a0_1)) * a2)) a3 t129 t130 _ A38.out).mono ?_); rintro e wxc5121 ⟨rfl, hb⟩; refine ⟨_, rfl, ?_⟩; have n0_ := Aside0.mk (blk_below (g := gb122) (o := .cells #[.int .i64 a0_0, .int .i64 a0_1] 26 (0, 0)) (by (with_reducible repeat (first | refine blk_drewN ?_ _ | refine blk_drew ?_ | refine blk_alloc ?_ _)); exact BK122.out) hb); have n1_ := Aside0.mk (blk_below (g := gb123) (o := .cells #[.int .i64 a1_0, .int .i64 a1_1] 26 (0, 0)) (by (with_reducible repeat (first | refine blk_drewN ?_ _ | refine blk_drew ?_ | refine blk_alloc ?_ _)); exact BK123.out) hb); have n2_ := Aside0.mk (blk_below (g := gb124) (o := .cells #[.int .i64 0, .int .i64 0] 26 (0, 0)) (by (with_reducible repeat (first | refine blk_drewN ?_ _ | refine blk_drew ?_ | refine blk_alloc ?_ _)); exact BK124.out) hb); have n3_ := Aside0.mk (below_step (by repeat (first | (with_reducible first | exact HB.out | apply below_alloc | apply pw_below_drewN | apply below_drew1 | refine below_set ?_ GE122.out | refine below_set ?_ GE123.out | refine below_set ?_ GE124.out) | exact HB.out)) hb); clear BK122; clear BK123; clear BK124; clear HB; have BK122 := n0_; have BK123 := n1_; have BK124 := n2_; have HB := n3_; clear n0_ n1_ n2_ n3_; (try clear hb); (try clear hb2); (try clear hk); (try clear hi); have hczxc5121 : wxc5121.cell? ⟨gb122, 0, none⟩ = some (.int .i64 a0_0) := (blk_cell BK122.out 0).trans rfl; have hczxc5122 : wxc5121.cell? ⟨gb122, 1, none⟩ = some (.int .i64 a0_1) := (blk_cell BK122.out 1).trans rfl; have hfzxc5121 := blk_frozen BK122.out 0; have hfzxc5122 := blk_frozen BK122.out 1; have hczxc5123 : wxc5121.cell? ⟨gb124, 0, none⟩ = some (.int .i64 0) := (blk_cell BK124.out 0).trans rfl; have hczxc5124 : wxc5121.cell? ⟨gb124, 1, none⟩ = some (.int .i64 0) := (blk_cell BK124.out 1).trans rfl; have hfzxc5123 := blk_frozen BK124.out 0; have hfzxc5124 := blk_frozen BK124.out 1))
         refine bodyPost_ret (results_ct rfl _ _ gb124 26 #[.int .i64 (wrap64 (a0_0 + t127)), .int .i64 (wrap64 (a0_1 + t129))] (0, 0) _ rfl (by (with_reducible repeat (first | refine blk_drewN ?_ _ | refine blk_drew ?_ | refine blk_alloc ?_ _)); refine blk_put (cs := #[.int .i64 (wrap64 (a0_0 + t127)), .int .i64 0]) ?_ 1 _ rfl; (with_reducible repeat (first | refine blk_drewN ?_ _ | refine blk_drew ?_ | refine blk_alloc ?_ _)); refine blk_put (cs := #[.int .i64 0, .int .i64 0]) ?_ 0 _ rfl; (with_reducible repeat (first | refine blk_drewN ?_ _ | refine blk_drew ?_ | refine blk_alloc ?_ _)); exact BK124.out) Try.underlying26 rfl (by kernel_rfl)) rfl ?_
         exact ⟨by first | rfl | (simp [errW_none, errW_some] <;> rfl) | (simp [*, errW_none, errW_some] <;> rfl), by repeat (first | (with_reducible first | exact HB.out | apply below_alloc | apply pw_below_drewN | apply below_drew1 | refine below_set ?_ GE122.out | refine below_set ?_ GE123.out | refine below_set ?_ GE124.out) | exact HB.out)⟩

/-! ### tube_between: function 57 -/
def tube_between.f (k : Nat) (a0 : Int) (a1 : Int) (a2 : Int) (a3 : Int) : Option (Int) := (num_DivDown.f k (wrap64 ((wrap64 (a1 - a0)) * a2)) a3).bind fun bt131 => (some (wrap64 (a0 + bt131.1)))
theorem tube_between.mono : ∀ a0 a1 a2 a3 k, LeO (tube_between.f k a0 a1 a2 a3) (tube_between.f (k + 1) a0 a1 a2 a3) := by
  intro a0 a1 a2 a3 k
  unfold tube_between.f
  repeat' first
      | (with_reducible exact num_DivDown.mono _ _ _)
      | (with_reducible exact LeO.refl _)
      | (with_reducible exact LeO.none _)
      | (with_reducible refine LeO.ite ?_ ?_)
      | (with_reducible refine LeO.bind ?_ (fun _ => ?_))
      | exact num_DivDown.mono _ _ _
      | exact LeO.none _
      | refine LeO.ite ?_ ?_
      | refine LeO.bind ?_ (fun _ => ?_)
set_option maxHeartbeats 8000000 in
set_option maxRecDepth 100000 in
theorem tube_between.calls (k : Nat) (a0 : Int) (a1 : Int) (a2 : Int) (a3 : Int) (r : Int) (w : World) (h : tube_between.f k a0 a1 a2 a3 = some r) :
    Calls Try.prog 57 #[.int .i64 a0, .int .i64 a1, .int .i64 a2, .int .i64 a3] w fun e w' => e = .returned (.int .i64 r) ∧ Below w.heap.size w w' := by
 have HB := Aside0.mk (Below.refl w.heap.size w)
 have H : ((num_DivDown.f k (wrap64 ((wrap64 (a1 - a0)) * a2)) a3).bind fun bt131 => (some (wrap64 (a0 + bt131.1)))) = some r := h
 clear h
 replace H := Option.bind_eq_some_iff.mp H
 obtain ⟨⟨t131, t132⟩, A50, H⟩ := H
 replace H : (some (wrap64 (a0 + t131))) = some r := H
 have A5 := Aside0.mk A50
 clear A50
 obtain rfl := Option.some.inj H
 go_enter Try.func57, Try.ntmps57
 go_wp2_with (first | ((with_reducible refine gate_callee (f := 59) rfl ?_); refine goesL_ (some 18) rfl rfl Try.func59 (by kernel_rfl) rfl #[.int .i64 (wrap64 ((wrap64 (a1 - a0)) * a2)), .int .i64 a3] rfl (by (try simp only [List.map_toArray, List.map_cons, List.map_nil]); first | done | rfl | (simp only [List.length_drop, List.length_take]; rfl)) ?_; (with_reducible refine (num_DivDown.calls k (wrap64 ((wrap64 (a1 - a0)) * a2)) a3 t131 t132 _ A5.out).mono ?_); rintro e w6 ⟨rfl, hb⟩; refine ⟨_, rfl, ?_⟩; have n0_ := Aside0.mk (below_step (by repeat (first | (with_reducible first | exact HB.out | apply below_alloc | apply pw_below_drewN | apply below_drew1) | exact HB.out)) hb); clear HB; have HB := n0_; clear n0_; (try clear hb); (try clear hb2); (try clear hk); (try clear hi)))
 go_ret
 exact ⟨by first | rfl | (simp [errW_none, errW_some] <;> rfl) | (simp [*, errW_none, errW_some] <;> rfl), by repeat (first | (with_reducible first | exact HB.out | apply below_alloc | apply pw_below_drewN | apply below_drew1) | exact HB.out)⟩

/-! ### tube_above: function 58 -/
def tube_above.f (k : Nat) (a0 : Int) (a1 : Int) (a2 : Int) (a3 : Int) : Option (Int) := (num_DivUp.f k (wrap64 ((wrap64 (a1 - a0)) * a2)) a3).bind fun bt133 => (some (wrap64 (a0 + bt133.1)))
theorem tube_above.mono : ∀ a0 a1 a2 a3 k, LeO (tube_above.f k a0 a1 a2 a3) (tube_above.f (k + 1) a0 a1 a2 a3) := by
  intro a0 a1 a2 a3 k
  unfold tube_above.f
  repeat' first
      | (with_reducible exact num_DivUp.mono _ _ _)
      | (with_reducible exact LeO.refl _)
      | (with_reducible exact LeO.none _)
      | (with_reducible refine LeO.ite ?_ ?_)
      | (with_reducible refine LeO.bind ?_ (fun _ => ?_))
      | exact num_DivUp.mono _ _ _
      | exact LeO.none _
      | refine LeO.ite ?_ ?_
      | refine LeO.bind ?_ (fun _ => ?_)
set_option maxHeartbeats 8000000 in
set_option maxRecDepth 100000 in
theorem tube_above.calls (k : Nat) (a0 : Int) (a1 : Int) (a2 : Int) (a3 : Int) (r : Int) (w : World) (h : tube_above.f k a0 a1 a2 a3 = some r) :
    Calls Try.prog 58 #[.int .i64 a0, .int .i64 a1, .int .i64 a2, .int .i64 a3] w fun e w' => e = .returned (.int .i64 r) ∧ Below w.heap.size w w' := by
 have HB := Aside0.mk (Below.refl w.heap.size w)
 have H : ((num_DivUp.f k (wrap64 ((wrap64 (a1 - a0)) * a2)) a3).bind fun bt133 => (some (wrap64 (a0 + bt133.1)))) = some r := h
 clear h
 replace H := Option.bind_eq_some_iff.mp H
 obtain ⟨⟨t133, t134⟩, A50, H⟩ := H
 replace H : (some (wrap64 (a0 + t133))) = some r := H
 have A5 := Aside0.mk A50
 clear A50
 obtain rfl := Option.some.inj H
 go_enter Try.func58, Try.ntmps58
 go_wp2_with (first | ((with_reducible refine gate_callee (f := 44) rfl ?_); refine goesL_ (some 18) rfl rfl Try.func44 (by kernel_rfl) rfl #[.int .i64 (wrap64 ((wrap64 (a1 - a0)) * a2)), .int .i64 a3] rfl (by (try simp only [List.map_toArray, List.map_cons, List.map_nil]); first | done | rfl | (simp only [List.length_drop, List.length_take]; rfl)) ?_; (with_reducible refine (num_DivUp.calls k (wrap64 ((wrap64 (a1 - a0)) * a2)) a3 t133 t134 _ A5.out).mono ?_); rintro e w6 ⟨rfl, hb⟩; refine ⟨_, rfl, ?_⟩; have n0_ := Aside0.mk (below_step (by repeat (first | (with_reducible first | exact HB.out | apply below_alloc | apply pw_below_drewN | apply below_drew1) | exact HB.out)) hb); clear HB; have HB := n0_; clear n0_; (try clear hb); (try clear hb2); (try clear hk); (try clear hi)))
 go_ret
 exact ⟨by first | rfl | (simp [errW_none, errW_some] <;> rfl) | (simp [*, errW_none, errW_some] <;> rfl), by repeat (first | (with_reducible first | exact HB.out | apply below_alloc | apply pw_below_drewN | apply below_drew1) | exact HB.out)⟩

end Go.Proofs.Yteaddpieonkboab.PTubeCuts
