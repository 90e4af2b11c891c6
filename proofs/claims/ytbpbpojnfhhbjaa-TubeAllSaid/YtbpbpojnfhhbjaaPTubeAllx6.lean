/- Made by a program of this session (wip/tools/myprint.py, over the kit's printer): that the Go functions answer as the Lean functions printed beside them. -/
import Derived.Test.YtbpbpojnfhhbjaaPTubeAllx0
import Derived.Test.YtbpbpojnfhhbjaaPTubeAllx2
import Derived.Test.YtbpbpojnfhhbjaaPTubeAllx3
import Derived.Test.YtbpbpojnfhhbjaaPTubeAllx5
namespace Go.Proofs.Ytbpbpojnfhhbjaa.PTubeAll
open Go.RowKit Go.Proofs.YtbpbpojnfhhbjaaW.PrintWords Go.Proofs.YtbpbpojnfhhbjaaW.PrintLast Go.Proofs.YtbpbpojnfhhbjaaW.PrintMore
attribute [local go_sem] max2_int min2_int max_two min_two max_three min_three max_four min_four   -- for this text's walks alone
set_option linter.unusedVariables false
set_option linter.unusedSimpArgs false

/-! ### tube_Of: function 83 -/
mutual
def tube_Of.j0 : Nat → List (S71) → Int → Int → Int → Bool → Option ((List (S88)) × Int)
  | 0, _, _, _, _, _ => none
  | k + 1, x0, x1, x2, x3, x42 => if x42 = true then (some (([] : List (S88)), 4)) else (tube_Of.l0 k x0 x1 x2 x3 ([] : List (S88)) x0 (x0.length : Int) 0)
def tube_Of.l0 : Nat → List (S71) → Int → Int → Int → List (S88) → List (S71) → Int → Int → Option ((List (S88)) × Int)
  | 0, _, _, _, _, _, _, _, _ => none
  | k + 1, x0, x1, x2, x3, x11, x43, x44, x45 => if x45 < x44 then (if 0 ≤ x45 then (if x45 < (x43.length : Int) then (if 0 < (x0.length : Int) then ((num_DivUp.f k (wrap64 (x2 * (wrap64 (((rd_T71 x43 x45).f0) - ((rd_T71 x0 0).f0))))) 60).bind fun bt178 => (if x11.length < 2932031007402 then (tube_Of.l0 k x0 x1 x2 x3 (x11 ++ [(⟨(⟨(rd_T71 x43 x45).f0, (⟨(rd_T71 x43 x45).f1.f0, (rd_T71 x43 x45).f1.f1⟩ : S36), (rd_T71 x43 x45).f2⟩ : S71), wrap64 (x1 + bt178.1), x3⟩ : S88)]) x43 x44 (wrap64 (x45 + 1))) else (none))) else (none)) else (none)) else (none)) else ((tube_Check.f k x11).bind fun t183 => (if t183 = 0 then (some (x11, 0)) else (some (([] : List (S88)), 4))))
end
def tube_Of.f (k : Nat) (l0 : List (S71)) (a1 : Int) (a2 : Int) (a3 : Int) : Option ((List (S88)) × Int) := (fly_Check.f k l0).bind fun t174 => (if t174 = 0 then (if a1 < 0 then (tube_Of.j0 k l0 a1 a2 a3 true) else (if a1 > 1000000 then (tube_Of.j0 k l0 a1 a2 a3 true) else (if a2 < 0 then (tube_Of.j0 k l0 a1 a2 a3 true) else (if a2 > 1000000 then (tube_Of.j0 k l0 a1 a2 a3 true) else (if a3 < 0 then (tube_Of.j0 k l0 a1 a2 a3 true) else (tube_Of.j0 k l0 a1 a2 a3 (decide (a3 > 60000)))))))) else (some (([] : List (S88)), t174)))
theorem tube_Of.mono_l : ∀ k, (∀ y0 y1 y2 y3 y4, LeO (tube_Of.j0 k y0 y1 y2 y3 y4) (tube_Of.j0 (k + 1) y0 y1 y2 y3 y4)) ∧ (∀ y0 y1 y2 y3 y4 y5 y6 y7, LeO (tube_Of.l0 k y0 y1 y2 y3 y4 y5 y6 y7) (tube_Of.l0 (k + 1) y0 y1 y2 y3 y4 y5 y6 y7))
  | 0 => ⟨fun _ _ _ _ _ r h => by simp [tube_Of.j0] at h, fun _ _ _ _ _ _ _ _ r h => by simp [tube_Of.l0] at h⟩
  | k + 1 => by
    obtain ⟨ih0, ih1⟩ := tube_Of.mono_l k
    refine ⟨?_, ?_⟩
    · intro y0 y1 y2 y3 y4
      unfold tube_Of.j0
      repeat' first
      | (with_reducible exact ih0 _ _ _ _ _)
      | (with_reducible exact ih1 _ _ _ _ _ _ _ _)
      | (with_reducible exact fly_Check.mono _ _)
      | (with_reducible exact num_DivUp.mono _ _ _)
      | (with_reducible exact tube_Check.mono _ _)
      | (with_reducible exact LeO.refl _)
      | (with_reducible exact LeO.none _)
      | (with_reducible refine LeO.ite ?_ ?_)
      | (with_reducible refine LeO.bind ?_ (fun _ => ?_))
      | exact ih0 _ _ _ _ _
      | exact ih1 _ _ _ _ _ _ _ _
      | exact fly_Check.mono _ _
      | exact num_DivUp.mono _ _ _
      | exact tube_Check.mono _ _
      | exact LeO.none _
      | refine LeO.ite ?_ ?_
      | refine LeO.bind ?_ (fun _ => ?_)
    · intro y0 y1 y2 y3 y4 y5 y6 y7
      unfold tube_Of.l0
      repeat' first
      | (with_reducible exact ih0 _ _ _ _ _)
      | (with_reducible exact ih1 _ _ _ _ _ _ _ _)
      | (with_reducible exact fly_Check.mono _ _)
      | (with_reducible exact num_DivUp.mono _ _ _)
      | (with_reducible exact tube_Check.mono _ _)
      | (with_reducible exact LeO.refl _)
      | (with_reducible exact LeO.none _)
      | (with_reducible refine LeO.ite ?_ ?_)
      | (with_reducible refine LeO.bind ?_ (fun _ => ?_))
      | exact ih0 _ _ _ _ _
      | exact ih1 _ _ _ _ _ _ _ _
      | exact fly_Check.mono _ _
      | exact num_DivUp.mono _ _ _
      | exact tube_Check.mono _ _
      | exact LeO.none _
      | refine LeO.ite ?_ ?_
      | refine LeO.bind ?_ (fun _ => ?_)
theorem tube_Of.mono : ∀ a0 a1 a2 a3 k, LeO (tube_Of.f k a0 a1 a2 a3) (tube_Of.f (k + 1) a0 a1 a2 a3) := by
  intro a0 a1 a2 a3 k
  obtain ⟨ih0, ih1⟩ := tube_Of.mono_l k
  unfold tube_Of.f
  repeat' first
      | (with_reducible exact ih0 _ _ _ _ _)
      | (with_reducible exact ih1 _ _ _ _ _ _ _ _)
      | (with_reducible exact fly_Check.mono _ _)
      | (with_reducible exact num_DivUp.mono _ _ _)
      | (with_reducible exact tube_Check.mono _ _)
      | (with_reducible exact LeO.refl _)
      | (with_reducible exact LeO.none _)
      | (with_reducible refine LeO.ite ?_ ?_)
      | (with_reducible refine LeO.bind ?_ (fun _ => ?_))
      | exact ih0 _ _ _ _ _
      | exact ih1 _ _ _ _ _ _ _ _
      | exact fly_Check.mono _ _
      | exact num_DivUp.mono _ _ _
      | exact tube_Check.mono _ _
      | exact LeO.none _
      | refine LeO.ite ?_ ?_
      | refine LeO.bind ?_ (fun _ => ?_)
def tube_Of.T10 : Bool × List (List Nat × List Nat) := (true, [([], []), ([], []), ([1], [1]), ([], []), ([3], [3]), ([4], [4]), ([5], [5]), ([2, 6], [2, 6]), ([0, 7], [0, 7]), ([8], [8]), ([9], [9]), ([10], [10]), ([10], [10]), ([11, 9, 0, 1, 2, 3, 4, 5, 6, 7, 8, 9, 10, 11], [11]), ([12, 13, 0, 1, 2, 3, 4, 5, 6, 7, 8, 9, 10, 11, 12, 13], [12])])
def tube_Of.B10 : List Nat := [0, 0, 2, 0, 8, 24, 56, 126, 255, 511, 1023, 2047, 2047, 4095, 16383]
theorem tube_Of.tab10 : rtab .any (opsOf Try.f83 10) = tube_Of.T10 := by kernel_rfl
theorem tube_Of.bits10 : waitsOk tube_Of.T10.2 tube_Of.B10 = true := by kernel_rfl
set_option maxHeartbeats 8000000 in
set_option maxRecDepth 100000 in
theorem tube_Of.calls (k : Nat) (A0 : Option Addr) (c0 : Nat) (l0 : List (S71)) (a1 : Int) (a2 : Int) (a3 : Int) (r1 : List (S88)) (r2 : Int) (w : World) (hr0 : Kd.C k71 w A0 l0.length l0) (hc0 : l0.length ≤ c0) (h : tube_Of.f k l0 a1 a2 a3 = some (r1, r2)) :
    Calls Try.prog 83 #[.slice A0 l0.length c0, .int .i64 a1, .int .i64 a2, .int .i64 a3] w fun e w' => ∃ v0_ : Value, e = .returned (.tuple #[v0_, .int .i64 r2]) ∧ Kd.R k88 88 w' w.heap.size (fun _ => True) v0_ r1 ∧ Below w.heap.size w w' := by
 have hu71 := Try.underlying71
 have hu88 := Try.underlying88
 have HR0 := Aside0.mk hr0
 have HC0 := Aside0.mk hc0
 clear hr0 hc0
 have HB := Aside0.mk (Below.refl w.heap.size w)
 have H : ((fly_Check.f k l0).bind fun t174 => (if t174 = 0 then (if a1 < 0 then (tube_Of.j0 k l0 a1 a2 a3 true) else (if a1 > 1000000 then (tube_Of.j0 k l0 a1 a2 a3 true) else (if a2 < 0 then (tube_Of.j0 k l0 a1 a2 a3 true) else (if a2 > 1000000 then (tube_Of.j0 k l0 a1 a2 a3 true) else (if a3 < 0 then (tube_Of.j0 k l0 a1 a2 a3 true) else (tube_Of.j0 k l0 a1 a2 a3 (decide (a3 > 60000)))))))) else (some (([] : List (S88)), t174)))) = some (r1, r2) := h
 clear h
 replace H := Option.bind_eq_some_iff.mp H
 obtain ⟨t174, A50, H⟩ := H
 replace H : (if t174 = 0 then (if a1 < 0 then (tube_Of.j0 k l0 a1 a2 a3 true) else (if a1 > 1000000 then (tube_Of.j0 k l0 a1 a2 a3 true) else (if a2 < 0 then (tube_Of.j0 k l0 a1 a2 a3 true) else (if a2 > 1000000 then (tube_Of.j0 k l0 a1 a2 a3 true) else (if a3 < 0 then (tube_Of.j0 k l0 a1 a2 a3 true) else (tube_Of.j0 k l0 a1 a2 a3 (decide (a3 > 60000)))))))) else (some (([] : List (S88)), t174))) = some (r1, r2) := H
 have A5 := Aside0.mk A50
 clear A50
 refine Or.elim (Classical.em (t174 = 0)) (fun c6 => ?p2_) (fun c6 => ?n2_)
 case' p2_ =>
  rw [if_pos c6] at H
  have c6b0 : (t174 == 0) = true := beq_iff_eq.mpr c6
  have c6b1 : (t174 != 0) = false := bne_eq_false_iff_eq.mpr c6
  clear c6
  have HC7 := Aside0.mk H
  clear H
  have hm1_0 := Aside0.mk trivial
 case' n2_ =>
  rw [if_neg c6] at H
  have c6b0 : (t174 == 0) = false := beq_eq_false_iff_ne.mpr c6
  have c6b1 : (t174 != 0) = true := bne_iff_ne.mpr c6
  simp only [Option.some.injEq, Prod.mk.injEq] at H
  obtain ⟨rfl, rfl⟩ := H
  have hm1_1 := Aside0.mk trivial
 all_goals
  go_enter Try.func83, Try.ntmps83
  first
   | clear hm1_0
     go_upto_region 4 with (first | ((with_reducible refine gate_callee (f := 76) rfl ?_); refine goesL_ (some 17) rfl rfl Try.func76 (by kernel_rfl) rfl #[.slice A0 l0.length c0] rfl (by (try simp only [List.map_toArray, List.map_cons, List.map_nil]); first | done | rfl | (simp only [List.length_drop, List.length_take]; rfl)) ?_; (with_reducible refine (fly_Check.calls k _ _ l0 t174 _ ?side1 ?side2 A5.out).mono ?_); (case side1 => repeat (first | exact HR0.out | (with_reducible refine Kd.C_alloc ?_ _) | (with_reducible refine Kd.C_drewN ?_ _) | (with_reducible refine Kd.C_drew ?_))); (case side2 => exact HC0.out); rintro e wx3de91 ⟨rfl, hb⟩; refine ⟨_, rfl, ?_⟩; have n0_ := Aside0.mk (below_step (by repeat (first | (with_reducible first | exact HB.out | apply below_alloc | apply pw_below_drewN | apply below_drew1) | exact HB.out)) hb); clear HB; have HB := n0_; clear n0_; (try clear hb); (try clear hb2); (try clear hk); (try clear hi)))
     (try simp only [Act.put, List.setIfInBounds_toArray, List.set_cons_zero, List.set_cons_succ])
     go_cut [42] (fun v42 wc => ∃ (kq : Nat) (x42_6 : Bool), v42 = .bool x42_6 ∧ Aside0 (tube_Of.j0 kq l0 a1 a2 a3 x42_6 = some (r1, r2)) ∧ Aside0 (kq ≤ k) ∧ Aside0 (Below w.heap.size w wc))
     case first =>
      have H := HC7.out
      clear HC7
      refine Or.elim (Classical.em (a1 < 0)) (fun c9 => ?p4_) (fun c9 => ?n4_)
      case' p4_ =>
       rw [if_pos c9] at H
       have c9b0 : decide (a1 < 0) = true := decide_eq_true c9
       clear c9
       (first | rw [c9b0] | (simp only [i64_w, i32_w]; rw [c9b0]) | skip)
      case' n4_ =>
       rw [if_neg c9] at H
       have c9b0 : decide (a1 < 0) = false := decide_eq_false c9
       clear c9
       (first | rw [c9b0] | (simp only [i64_w, i32_w]; rw [c9b0]) | skip)
       refine Or.elim (Classical.em (a1 > 1000000)) (fun c10 => ?p5_) (fun c10 => ?n5_)
       case' p5_ =>
        rw [if_pos c10] at H
        have c10b0 : decide (1000000 < a1) = true := decide_eq_true c10
        clear c10
       case' n5_ =>
        rw [if_neg c10] at H
        have c10b0 : decide (1000000 < a1) = false := decide_eq_false c10
        clear c10
        refine Or.elim (Classical.em (a2 < 0)) (fun c11 => ?p6_) (fun c11 => ?n6_)
        case' p6_ =>
         rw [if_pos c11] at H
         have c11b0 : decide (a2 < 0) = true := decide_eq_true c11
         clear c11
        case' n6_ =>
         rw [if_neg c11] at H
         have c11b0 : decide (a2 < 0) = false := decide_eq_false c11
         clear c11
         refine Or.elim (Classical.em (a2 > 1000000)) (fun c12 => ?p7_) (fun c12 => ?n7_)
         case' p7_ =>
          rw [if_pos c12] at H
          have c12b0 : decide (1000000 < a2) = true := decide_eq_true c12
          clear c12
         case' n7_ =>
          rw [if_neg c12] at H
          have c12b0 : decide (1000000 < a2) = false := decide_eq_false c12
          clear c12
          refine Or.elim (Classical.em (a3 < 0)) (fun c13 => ?p8_) (fun c13 => ?n8_)
          case' p8_ =>
           rw [if_pos c13] at H
           have c13b0 : decide (a3 < 0) = true := decide_eq_true c13
           clear c13
          case' n8_ =>
           rw [if_neg c13] at H
           have c13b0 : decide (a3 < 0) = false := decide_eq_false c13
           clear c13
      all_goals
       have H' := Aside0.mk H
       clear H
       go_wp2
       go_meet
       case rel => first | (exact ⟨_, (true), (by first | rfl | (simp; done) | (simp [*]; done)), H', ⟨by first | omega | exact Nat.le_refl _⟩, ⟨by repeat (first | (with_reducible first | exact HB.out | apply below_alloc | apply pw_below_drewN | apply below_drew1) | exact HB.out)⟩⟩) | (exact ⟨_, (decide (a3 > 60000)), (by first | rfl | (simp; done) | (simp [*]; done)), H', ⟨by first | omega | exact Nat.le_refl _⟩, ⟨by repeat (first | (with_reducible first | exact HB.out | apply below_alloc | apply pw_below_drewN | apply below_drew1) | exact HB.out)⟩⟩)
     case rest =>
      clear HC7
      (try clear c1); (try clear p2); (try clear c6); (try clear c6b0); (try clear c6b1); (try clear c7); (try clear c8); (try clear c9); (try clear c9b0); (try clear c10); (try clear c10b0); (try clear c11); (try clear c11b0); (try clear c12); (try clear c12b0); (try clear c13); (try clear c13b0)
      obtain ⟨kq, x42_6, rfl, HA, HJ6, HB⟩ := hcut
      cases kq with
      | zero => exact absurd HA.out (by simp [tube_Of.j0])
      | succ kj6 =>
       have H := HA.out
       clear HA
       simp only [tube_Of.j0] at H
       by_cases c14 : x42_6 = true
       · subst c14
         have H1 : (some (([] : List (S88)), 4)) = some (r1, r2) := by rw [if_pos rfl] at H; exact H
         clear H
         have H := H1
         clear H1
         simp only [Option.some.injEq, Prod.mk.injEq] at H
         obtain ⟨rfl, rfl⟩ := H
         go_wp2
         go_ret2
         exact ⟨_, by first | rfl | (simp [errW_none, errW_some] <;> rfl) | (simp [*, errW_none, errW_some] <;> rfl), by first | exact Kd.R_nil _ _ _ _ _ | exact Kd.N_nil _ _ _ _ _ | exact Kd.V_nil _ _ _ _ _ | exact Kd.Q_nil _ _ _ _ _ | exact Kd.S_nil _ _ _ _ _, by repeat (first | (with_reducible first | exact HB.out | apply below_alloc | apply pw_below_drewN | apply below_drew1) | exact HB.out)⟩
       · replace c14 := Bool.eq_false_iff.mpr c14
         subst c14
         have H1 : (tube_Of.l0 kj6 l0 a1 a2 a3 ([] : List (S88)) l0 (l0.length : Int) 0) = some (r1, r2) := by rw [if_neg (show ¬ (false = true) by decide)] at H; exact H
         clear H
         have H := H1
         clear H1
         have H' := Aside0.mk H
         clear H
         go_wp2
         go_loopg [11, 45] kj6 (fun kq v11 v45 w' => ∃ (x11_2 : List (S88)) (x45_2 : Int), v45 = .int .i64 x45_2 ∧ Aside0 (tube_Of.l0 kq l0 a1 a2 a3 x11_2 l0 (l0.length : Int) x45_2 = some (r1, r2)) ∧ Aside0 (kq ≤ kj6) ∧ Aside0 (Kd.R k88 88 w' w.heap.size (fun _ => True) v11 x11_2) ∧ Aside0 (Below w.heap.size w w'))
         case atStart => exact ⟨(([] : List (S88))), (0), (by first | rfl | (simp; done) | (simp [*]; done)), H', ⟨Nat.le_refl _⟩, ⟨by first | exact Kd.R_nil _ _ _ _ _ | exact Kd.N_nil _ _ _ _ _ | exact Kd.V_nil _ _ _ _ _ | exact Kd.Q_nil _ _ _ _ _ | exact Kd.S_nil _ _ _ _ _⟩, ⟨by repeat (first | (with_reducible first | exact HB.out | apply below_alloc | apply pw_below_drewN | apply below_drew1) | exact HB.out)⟩⟩
         case round =>
          clear H'
          (try clear c1); (try clear p2); (try clear c6); (try clear c6b0); (try clear c6b1); (try clear c7); (try clear c8); (try clear c9); (try clear c9b0); (try clear c10); (try clear c10b0); (try clear c11); (try clear c11b0); (try clear c12); (try clear c12b0); (try clear c13); (try clear c13b0); (try clear c14); (try clear p2)
          obtain ⟨x11_2, x45_2, rfl, HA, HK2, HO_11, HB⟩ := hrel
          cases gk with
          | zero => exact absurd HA.out (by simp [tube_Of.l0])
          | succ k2 =>
           have H := HA.out
           clear HA
           simp only [tube_Of.l0] at H
           refine Or.elim (Classical.em (x45_2 < (l0.length : Int))) (fun c15 => ?p10_) (fun c15 => ?n10_)
           case' p10_ =>
            rw [if_pos c15] at H
            have c15b0 : decide (x45_2 < (l0.length : Int)) = true := decide_eq_true c15
            clear c15
            refine Or.elim (Classical.em (0 ≤ x45_2)) (fun c16 => ?p11_) (fun c16 => ?n11_)
            case' p11_ =>
             rw [if_pos c16] at H
             have c16b0 : decide (0 ≤ x45_2) = true := decide_eq_true c16
             clear c16
             refine Or.elim (Classical.em (x45_2 < (l0.length : Int))) (fun c17 => ?p12_) (fun c17 => ?n12_)
             case' p12_ =>
              rw [if_pos c17] at H
              have c17b0 : decide (x45_2 < (l0.length : Int)) = true := decide_eq_true c17
              clear c17
              refine Or.elim (Classical.em (0 < (l0.length : Int))) (fun c18 => ?p13_) (fun c18 => ?n13_)
              case' p13_ =>
               rw [if_pos c18] at H
               have c18b0 : decide (0 < (l0.length : Int)) = true := decide_eq_true c18
               have c18b1 : decide (0 < l0.length) = true := decide_eq_true (by omega)
               clear c18
               replace H := Option.bind_eq_some_iff.mp H
               obtain ⟨⟨t178, t179⟩, A190, H⟩ := H
               replace H : (if x11_2.length < 2932031007402 then (tube_Of.l0 k2 l0 a1 a2 a3 (x11_2 ++ [(⟨(⟨(rd_T71 l0 x45_2).f0, (⟨(rd_T71 l0 x45_2).f1.f0, (rd_T71 l0 x45_2).f1.f1⟩ : S36), (rd_T71 l0 x45_2).f2⟩ : S71), wrap64 (a1 + t178), a3⟩ : S88)]) l0 (l0.length : Int) (wrap64 (x45_2 + 1))) else (none)) = some (r1, r2) := H
               have A19 := Aside0.mk A190
               clear A190
               refine Or.elim (Classical.em (x11_2.length < 2932031007402)) (fun c20 => ?p14_) (fun c20 => ?n14_)
               case' p14_ =>
                rw [if_pos c20] at H
                have LMc20 := Aside0.mk c20
                clear c20
                obtain ⟨y180, hy180⟩ : ∃ y_ : List (S88), y_ = (x11_2 ++ [(⟨(⟨(rd_T71 l0 x45_2).f0, (⟨(rd_T71 l0 x45_2).f1.f0, (rd_T71 l0 x45_2).f1.f1⟩ : S36), (rd_T71 l0 x45_2).f2⟩ : S71), wrap64 (a1 + t178), a3⟩ : S88)]) := ⟨_, rfl⟩
                replace H : (tube_Of.l0 k2 l0 a1 a2 a3 y180 l0 (l0.length : Int) (wrap64 (x45_2 + 1))) = some (r1, r2) := by first | (rw [hy180]; with_reducible exact H) | (have H2_ := (Option.bind_some _ _).symm.trans H; rw [hy180]; with_reducible exact H2_) | (have H2_ := (Option.bind_some _ _).symm.trans H; with_reducible exact H2_) | with_reducible exact H | (rw [hy180]; exact H) | exact H
                have Ny180 := Aside0.mk hy180
                clear hy180
                have hm9_0 := Aside0.mk trivial
               case' n14_ =>
                rw [if_neg c20] at H
                exact absurd H (by simp)
              case' n13_ =>
               rw [if_neg c18] at H
               exact absurd H (by simp)
             case' n12_ =>
              rw [if_neg c17] at H
              exact absurd H (by simp)
            case' n11_ =>
             rw [if_neg c16] at H
             exact absurd H (by simp)
           case' n10_ =>
            rw [if_neg c15] at H
            have c15b0 : decide (x45_2 < (l0.length : Int)) = false := decide_eq_false c15
            clear c15
            replace H := Option.bind_eq_some_iff.mp H
            obtain ⟨t183, A280, H⟩ := H
            replace H : (if t183 = 0 then (some (x11_2, 0)) else (some (([] : List (S88)), 4))) = some (r1, r2) := H
            have A28 := Aside0.mk A280
            clear A280
            refine Or.elim (Classical.em (t183 = 0)) (fun c29 => ?p15_) (fun c29 => ?n15_)
            case' p15_ =>
             rw [if_pos c29] at H
             have c29b0 : (t183 == 0) = true := beq_iff_eq.mpr c29
             have c29b1 : (t183 != 0) = false := bne_eq_false_iff_eq.mpr c29
             clear c29
             simp only [Option.some.injEq, Prod.mk.injEq] at H
             obtain ⟨rfl, rfl⟩ := H
             obtain ⟨Aozc1, cozc1, eozc1⟩ := Kd.R_slice HO_11.out
             subst eozc1
             have hm9_1 := Aside0.mk trivial
            case' n15_ =>
             rw [if_neg c29] at H
             have c29b0 : (t183 == 0) = false := beq_eq_false_iff_ne.mpr c29
             have c29b1 : (t183 != 0) = true := bne_iff_ne.mpr c29
             simp only [Option.some.injEq, Prod.mk.injEq] at H
             obtain ⟨rfl, rfl⟩ := H
             obtain ⟨Aozc2, cozc2, eozc2⟩ := Kd.R_slice HO_11.out
             subst eozc2
             have hm9_2 := Aside0.mk trivial
           all_goals
            first
             | clear hm9_0
               have H' := Aside0.mk H
               clear H
               have p175 : 0 ≤ (x45_2 : Int) := of_decide_eq_true (by first | (with_reducible assumption) | assumption)
               have q175 : x45_2 < (l0.length : Int) := of_decide_eq_true (by first | (with_reducible assumption) | assumption)
               obtain ⟨ad175, e175, hx175_0, hx175_1, hx175_2, hx175_3⟩ := at_T71 HR0.out x45_2 p175 q175
               cases e175
               replace hx175_0 := (HB.out.cell (World.block_lt_of_cell? w _ hx175_0)).trans hx175_0
               replace hx175_1 := (HB.out.cell (World.block_lt_of_cell? w _ hx175_1)).trans hx175_1
               replace hx175_2 := (HB.out.cell (World.block_lt_of_cell? w _ hx175_2)).trans hx175_2
               replace hx175_3 := (HB.out.cell (World.block_lt_of_cell? w _ hx175_3)).trans hx175_3
               replace p175 := eq_true p175
               replace q175 := eq_true q175
               try go_wp2_with (first | ((with_reducible refine gate_dst (N := 13) rfl ?_); refine box_event ?hg (N := 13) ?hd (cs := #[.int .i64 0, .int .i64 0, .int .i64 0, .int .i64 0]) (t := 71) ?hr ?_; (case hd => rfl); (case hg => rfl); (case hr => first | (go_simp; done) | (go_simp; rfl)); intro gb176 hg wx7f021 hbox hb; have n0_ := Aside0.mk (Kd.R_below (by (with_reducible repeat (first | apply Kd.R_alloc | apply Kd.R_drewN | apply Kd.R_drew)); exact HO_11.out) hb); have n1_ := Aside0.mk (below_step (by repeat (first | (with_reducible first | exact HB.out | apply below_alloc | apply pw_below_drewN | apply below_drew1) | exact HB.out)) hb); have n2_ := Aside0.mk (hbox); have n3_ := Aside0.mk ((by rw [hg]; exact (below_size (by repeat (first | (with_reducible first | exact HB.out | apply below_alloc | apply pw_below_drewN | apply below_drew1) | exact HB.out))) : w.heap.size ≤ gb176)); have n4_ := Aside0.mk ((by rw [hg]; exact (below_size (by repeat (first | (with_reducible first | exact HB.out | apply below_alloc | apply pw_below_drewN | apply below_drew1) | exact HB.out))) : w.heap.size ≤ gb176)); clear HO_11; clear HB; have HO_11 := n0_; have HB := n1_; have BK176 := n2_; have GW176 := n3_; have GE176 := n4_; clear n0_ n1_ n2_ n3_ n4_; clear hb hbox hg; have hczx7f021 : wx7f021.cell? ⟨gb176, 0, none⟩ = some (.int .i64 0) := (blk_cell BK176.out 0).trans rfl; have hczx7f022 : wx7f021.cell? ⟨gb176, 1, none⟩ = some (.int .i64 0) := (blk_cell BK176.out 1).trans rfl; have hczx7f023 : wx7f021.cell? ⟨gb176, 2, none⟩ = some (.int .i64 0) := (blk_cell BK176.out 2).trans rfl; have hczx7f024 : wx7f021.cell? ⟨gb176, 3, none⟩ = some (.int .i64 0) := (blk_cell BK176.out 3).trans rfl; have hfzx7f021 := blk_frozen BK176.out 0; have hfzx7f022 := blk_frozen BK176.out 1; have hfzx7f023 := blk_frozen BK176.out 2; have hfzx7f024 := blk_frozen BK176.out 3))
               have n0_ : Aside0 (Kd.R k88 88 ((((wx7f021.setCell ⟨gb176, 0, none⟩ (.int .i64 ((rd_T71 l0 x45_2).f0))).setCell ⟨gb176, 1, none⟩ (.int .i64 ((rd_T71 l0 x45_2).f1.f0))).setCell ⟨gb176, 2, none⟩ (.int .i64 ((rd_T71 l0 x45_2).f1.f1))).setCell ⟨gb176, 3, none⟩ (.int .i64 ((rd_T71 l0 x45_2).f2))) w.heap.size (fun _ => True) u11 x11_2) := ⟨by (with_reducible repeat (first | apply Kd.R_alloc | apply Kd.R_drewN | apply Kd.R_drew)); exact Kd.R_mono (Kd.R_far (p := ⟨gb176, 3, none⟩) (Kd.R_far (p := ⟨gb176, 2, none⟩) (Kd.R_far (p := ⟨gb176, 1, none⟩) (Kd.R_far (p := ⟨gb176, 0, none⟩) (Kd.R_types HO_11.out BK176.out (by decide)) (fun _ hk => hk.2) (.int .i64 ((rd_T71 l0 x45_2).f0))) (fun _ hk => hk.2) (.int .i64 ((rd_T71 l0 x45_2).f1.f0))) (fun _ hk => hk.2) (.int .i64 ((rd_T71 l0 x45_2).f1.f1))) (fun _ hk => hk.2) (.int .i64 ((rd_T71 l0 x45_2).f2))) (fun _ hk => trivial)⟩
               have n1_ : Aside0 (((((wx7f021.setCell ⟨gb176, 0, none⟩ (.int .i64 ((rd_T71 l0 x45_2).f0))).setCell ⟨gb176, 1, none⟩ (.int .i64 ((rd_T71 l0 x45_2).f1.f0))).setCell ⟨gb176, 2, none⟩ (.int .i64 ((rd_T71 l0 x45_2).f1.f1))).setCell ⟨gb176, 3, none⟩ (.int .i64 ((rd_T71 l0 x45_2).f2))).heap[gb176]? = some (.cells #[.int .i64 ((rd_T71 l0 x45_2).f0), .int .i64 ((rd_T71 l0 x45_2).f1.f0), .int .i64 ((rd_T71 l0 x45_2).f1.f1), .int .i64 ((rd_T71 l0 x45_2).f2)] 71 (0, 0))) := ⟨by (with_reducible repeat (first | refine blk_drewN ?_ _ | refine blk_drew ?_ | refine blk_alloc ?_ _)); refine blk_put (cs := #[.int .i64 ((rd_T71 l0 x45_2).f0), .int .i64 ((rd_T71 l0 x45_2).f1.f0), .int .i64 ((rd_T71 l0 x45_2).f1.f1), .int .i64 0]) ?_ 3 _ rfl; (with_reducible repeat (first | refine blk_drewN ?_ _ | refine blk_drew ?_ | refine blk_alloc ?_ _)); refine blk_put (cs := #[.int .i64 ((rd_T71 l0 x45_2).f0), .int .i64 ((rd_T71 l0 x45_2).f1.f0), .int .i64 0, .int .i64 0]) ?_ 2 _ rfl; (with_reducible repeat (first | refine blk_drewN ?_ _ | refine blk_drew ?_ | refine blk_alloc ?_ _)); refine blk_put (cs := #[.int .i64 ((rd_T71 l0 x45_2).f0), .int .i64 0, .int .i64 0, .int .i64 0]) ?_ 1 _ rfl; (with_reducible repeat (first | refine blk_drewN ?_ _ | refine blk_drew ?_ | refine blk_alloc ?_ _)); refine blk_put (cs := #[.int .i64 0, .int .i64 0, .int .i64 0, .int .i64 0]) ?_ 0 _ rfl; (with_reducible repeat (first | refine blk_drewN ?_ _ | refine blk_drew ?_ | refine blk_alloc ?_ _)); exact BK176.out⟩
               have n2_ : Aside0 (Below w.heap.size w ((((wx7f021.setCell ⟨gb176, 0, none⟩ (.int .i64 ((rd_T71 l0 x45_2).f0))).setCell ⟨gb176, 1, none⟩ (.int .i64 ((rd_T71 l0 x45_2).f1.f0))).setCell ⟨gb176, 2, none⟩ (.int .i64 ((rd_T71 l0 x45_2).f1.f1))).setCell ⟨gb176, 3, none⟩ (.int .i64 ((rd_T71 l0 x45_2).f2)))) := ⟨by repeat (first | (with_reducible first | exact HB.out | apply below_alloc | apply pw_below_drewN | apply below_drew1 | refine below_set ?_ GE176.out) | exact HB.out)⟩
               (try clear HO_11)
               (try clear BK176)
               (try clear HB)
               generalize ((((wx7f021.setCell ⟨gb176, 0, none⟩ (.int .i64 ((rd_T71 l0 x45_2).f0))).setCell ⟨gb176, 1, none⟩ (.int .i64 ((rd_T71 l0 x45_2).f1.f0))).setCell ⟨gb176, 2, none⟩ (.int .i64 ((rd_T71 l0 x45_2).f1.f1))).setCell ⟨gb176, 3, none⟩ (.int .i64 ((rd_T71 l0 x45_2).f2))) = wze1 at n0_ n1_ n2_ ⊢
               have HO_11 := n0_
               have BK176 := n1_
               have HB := n2_
               clear n0_ n1_ n2_
               have n0_ := Aside0.mk (Kd.R_drew HO_11.out)
               have n1_ := Aside0.mk (blk_drew BK176.out)
               have n2_ := Aside0.mk (below_drew1 HB.out)
               clear HO_11
               clear BK176
               clear HB
               have HO_11 := n0_
               have BK176 := n1_
               have HB := n2_
               clear n0_ n1_ n2_
               have p177 : 0 ≤ (0 : Int) := (by omega)
               have q177 : 0 < (l0.length : Int) := of_decide_eq_true (by first | (with_reducible assumption) | assumption)
               obtain ⟨ad177, e177, hx177_0, hx177_1, hx177_2, hx177_3⟩ := at_T71 HR0.out 0 p177 q177
               have hw177_3 := hx177_3
               (try rw [show ((0 : Int)).toNat = 0 from rfl] at hw177_3)
               (try rw [show 0 * 4 = 0 from rfl] at hw177_3)
               (try rw [Addr.add_zero'] at hw177_3)
               have hw177_2 := hx177_2
               (try rw [show ((0 : Int)).toNat = 0 from rfl] at hw177_2)
               (try rw [show 0 * 4 = 0 from rfl] at hw177_2)
               (try rw [Addr.add_zero'] at hw177_2)
               have hw177_1 := hx177_1
               (try rw [show ((0 : Int)).toNat = 0 from rfl] at hw177_1)
               (try rw [show 0 * 4 = 0 from rfl] at hw177_1)
               (try rw [Addr.add_zero'] at hw177_1)
               have hw177_0 := hx177_0
               (try rw [show ((0 : Int)).toNat = 0 from rfl] at hw177_0)
               (try rw [show 0 * 4 = 0 from rfl] at hw177_0)
               (try rw [Addr.add_zero'] at hw177_0)
               obtain rfl : ad175 = ad177 := (by injection e177)
               have qi177 : (0 < l0.length) = True := eq_true (by omega)
               (try rw [show ((0 : Int)).toNat = 0 from rfl] at hx177_0)
               (try rw [show 0 * 4 = 0 from rfl] at hx177_0)
               (try rw [Addr.add_zero'] at hx177_0)
               (try rw [show ((0 : Int)).toNat = 0 from rfl] at hx177_1)
               (try rw [show 0 * 4 = 0 from rfl] at hx177_1)
               (try rw [Addr.add_zero'] at hx177_1)
               (try rw [show ((0 : Int)).toNat = 0 from rfl] at hx177_2)
               (try rw [show 0 * 4 = 0 from rfl] at hx177_2)
               (try rw [Addr.add_zero'] at hx177_2)
               (try rw [show ((0 : Int)).toNat = 0 from rfl] at hx177_3)
               (try rw [show 0 * 4 = 0 from rfl] at hx177_3)
               (try rw [Addr.add_zero'] at hx177_3)
               replace hx177_0 := (HB.out.cell (World.block_lt_of_cell? w _ hx177_0)).trans hx177_0
               replace hx177_1 := (HB.out.cell (World.block_lt_of_cell? w _ hx177_1)).trans hx177_1
               replace hx177_2 := (HB.out.cell (World.block_lt_of_cell? w _ hx177_2)).trans hx177_2
               replace hx177_3 := (HB.out.cell (World.block_lt_of_cell? w _ hx177_3)).trans hx177_3
               replace p177 := eq_true p177
               replace q177 := eq_true q177
               refine start_ (n := 15) (S := fun w' => w'.cell? ⟨gb176, 0, none⟩ = some (.int .i64 ((rd_T71 l0 x45_2).f0)) ∧ w'.cell? ⟨gb176, 1, none⟩ = some (.int .i64 ((rd_T71 l0 x45_2).f1.f0)) ∧ w'.cell? ⟨gb176, 2, none⟩ = some (.int .i64 ((rd_T71 l0 x45_2).f1.f1)) ∧ w'.cell? ⟨gb176, 3, none⟩ = some (.int .i64 ((rd_T71 l0 x45_2).f2)) ∧ w'.cell? ad175 = some (.int .i64 ((rd_T71 l0 0).f0)) ∧ w'.cell? ⟨ad175.block, ad175.off + 1, none⟩ = some (.int .i64 ((rd_T71 l0 0).f1.f0)) ∧ w'.cell? ⟨ad175.block, ad175.off + 2, none⟩ = some (.int .i64 ((rd_T71 l0 0).f1.f1)) ∧ w'.cell? ⟨ad175.block, ad175.off + 3, none⟩ = some (.int .i64 ((rd_T71 l0 0).f2))) (ds := []) #[false, false, false, false, false, false, false, false, false, false, false, false, false, false, false] (by kernel_rfl) rfl rfl ⟨(blk_cell BK176.out 0).trans rfl, (blk_cell BK176.out 1).trans rfl, (blk_cell BK176.out 2).trans rfl, (blk_cell BK176.out 3).trans rfl, ((HB.out.cell (World.block_lt_of_cell? w _ hw177_0)).trans hw177_0), ((HB.out.cell (World.block_lt_of_cell? w _ hw177_1)).trans hw177_1), ((HB.out.cell (World.block_lt_of_cell? w _ hw177_2)).trans hw177_2), ((HB.out.cell (World.block_lt_of_cell? w _ hw177_3)).trans hw177_3)⟩ (fun hHeld => ?_); refine with_tabW tube_Of.tab10 tube_Of.bits10 (fun HT_ HW_ => ?_)
               generalize wze1.drew = wze2 at HO_11 BK176 HB hx177_0 hx177_1 hx177_2 hx177_3 hHeld ⊢
               refine pure_ (i := 0) (N := some 50) (v := ?_) (a' := ?_) #[true, false, false, false, false, false, false, false, false, false, false, false, false, false, false] rfl rfl (any_of HT_.out (by kernel_rfl)) (fun _ _ _ h => h) (Or.inl ⟨by rfl, ?_⟩) ?_ ?_
               rotate_left
               · intro w'
                 go_simp
                 with_reducible rfl
               rotate_left
               · simp only [Act.put, List.setIfInBounds_toArray, List.set_cons_zero, List.set_cons_succ, i64_w, i32_w]
                 rfl
               refine pure_ (i := 1) (N := some 51) (v := ?_) (a' := ?_) #[true, true, false, false, false, false, false, false, false, false, false, false, false, false, false] rfl rfl (any_of HT_.out (by kernel_rfl)) (fun _ _ _ h => h) (Or.inl ⟨by rfl, ?_⟩) ?_ ?_
               rotate_left
               · intro w'
                 go_simp
                 with_reducible rfl
               rotate_left
               · simp only [Act.put, List.setIfInBounds_toArray, List.set_cons_zero, List.set_cons_succ, i64_w, i32_w]
                 rfl
               refine pure_ (i := 3) (N := some 53) (v := ?_) (a' := ?_) #[true, true, false, true, false, false, false, false, false, false, false, false, false, false, false] rfl rfl (any_of HT_.out (by kernel_rfl)) (fun _ _ _ h => h) (Or.inl ⟨by rfl, ?_⟩) ?_ ?_
               rotate_left
               · intro w'
                 go_simp
                 with_reducible rfl
               rotate_left
               · simp only [Act.put, List.setIfInBounds_toArray, List.set_cons_zero, List.set_cons_succ, i64_w, i32_w]
                 rfl
               refine pure_ (i := 4) (N := some 54) (v := ?_) (a' := ?_) #[true, true, false, true, true, false, false, false, false, false, false, false, false, false, false] rfl rfl (any_of HT_.out (by kernel_rfl)) (fun _ _ _ h => h) (Or.inl ⟨by rfl, ?_⟩) ?_ ?_
               rotate_left
               · intro w'
                 go_simp
                 with_reducible rfl
               rotate_left
               · simp only [Act.put, List.setIfInBounds_toArray, List.set_cons_zero, List.set_cons_succ, i64_w, i32_w]
                 rfl
               refine pure_ (i := 5) (N := some 55) (v := ?_) (a' := ?_) #[true, true, false, true, true, true, false, false, false, false, false, false, false, false, false] rfl rfl (any_of HT_.out (by kernel_rfl)) (fun _ _ _ h => h) (Or.inl ⟨by rfl, ?_⟩) ?_ ?_
               rotate_left
               · intro w'
                 go_simp
                 with_reducible rfl
               rotate_left
               · simp only [Act.put, List.setIfInBounds_toArray, List.set_cons_zero, List.set_cons_succ, i64_w, i32_w]
                 rfl
               refine take_ (i := 2) (N := some 52) (v := ?_) (a' := ?_) #[true, true, true, true, true, true, false, false, false, false, false, false, false, false, false] rfl rfl (take_ofW HT_.out HW_.out (by kernel_rfl)) (fun _ _ _ h => h) (Or.inl ⟨by rfl, ?_⟩) hHeld ?_ ?_
               rotate_left
               · rintro w' ⟨s0, s1, s2, s3, s4, s5, s6, s7⟩
                 go_simp
                 with_reducible rfl
               rotate_left
               · simp only [Act.put, List.setIfInBounds_toArray, List.set_cons_zero, List.set_cons_succ, i64_w, i32_w]
                 rfl
               refine take_ (i := 6) (N := some 56) (v := ?_) (a' := ?_) #[true, true, true, true, true, true, true, false, false, false, false, false, false, false, false] rfl rfl (take_ofW HT_.out HW_.out (by kernel_rfl)) (fun _ _ _ h => h) (Or.inl ⟨by rfl, ?_⟩) hHeld ?_ ?_
               rotate_left
               · rintro w' ⟨s0, s1, s2, s3, s4, s5, s6, s7⟩
                 go_simp
                 with_reducible rfl
               rotate_left
               · simp only [Act.put, List.setIfInBounds_toArray, List.set_cons_zero, List.set_cons_succ, i64_w, i32_w]
                 rfl
               refine pure_ (i := 7) (N := some 57) (v := ?_) (a' := ?_) #[true, true, true, true, true, true, true, true, false, false, false, false, false, false, false] rfl rfl (any_of HT_.out (by kernel_rfl)) (fun _ _ _ h => h) (Or.inl ⟨by rfl, ?_⟩) ?_ ?_
               rotate_left
               · intro w'
                 go_simp
                 with_reducible rfl
               rotate_left
               · simp only [Act.put, List.setIfInBounds_toArray, List.set_cons_zero, List.set_cons_succ, i64_w, i32_w]
                 rfl
               refine pure_ (i := 8) (N := some 58) (v := ?_) (a' := ?_) #[true, true, true, true, true, true, true, true, true, false, false, false, false, false, false] rfl rfl (any_of HT_.out (by kernel_rfl)) (fun _ _ _ h => h) (Or.inl ⟨by rfl, ?_⟩) ?_ ?_
               rotate_left
               · intro w'
                 go_simp
                 with_reducible rfl
               rotate_left
               · simp only [Act.put, List.setIfInBounds_toArray, List.set_cons_zero, List.set_cons_succ, i64_w, i32_w]
                 rfl
               refine one_ (i := 9) (N := some 59) #[true, true, true, true, true, true, true, true, true, true, false, false, false, false, false] rfl rfl (one_of HT_.out (by kernel_rfl)) (by decide) (fun K hK => ?_)
               refine goes_ Try.func113 (by kernel_rfl) rfl #[.int .i64 (wrap64 (a2 * (wrap64 (((rd_T71 l0 x45_2).f0) - ((rd_T71 l0 0).f0))))), .int .i64 60] (by rfl) rfl rfl (by (try simp only [List.map_toArray, List.map_cons, List.map_nil]); first | done | rfl | (simp only [List.length_drop, List.length_take]; rfl)) ?_
               with_reducible refine (num_DivUp.calls k2 (wrap64 (a2 * (wrap64 (((rd_T71 l0 x45_2).f0) - ((rd_T71 l0 0).f0))))) 60 t178 t179 _ A19.out).mono ?_
               rintro e wze3 ⟨rfl, hb⟩
               refine ⟨_, rfl, ?_⟩
               have n0_ := Aside0.mk (Kd.R_below (by (with_reducible repeat (first | apply Kd.R_alloc | apply Kd.R_drewN | apply Kd.R_drew)); exact HO_11.out) hb)
               have n1_ := Aside0.mk (blk_below (g := gb176) (o := .cells #[.int .i64 ((rd_T71 l0 x45_2).f0), .int .i64 ((rd_T71 l0 x45_2).f1.f0), .int .i64 ((rd_T71 l0 x45_2).f1.f1), .int .i64 ((rd_T71 l0 x45_2).f2)] 71 (0, 0)) (by (with_reducible repeat (first | refine blk_drewN ?_ _ | refine blk_drew ?_ | refine blk_alloc ?_ _)); exact BK176.out) hb)
               have n2_ := Aside0.mk (below_step (by repeat (first | (with_reducible first | exact HB.out | apply below_alloc | apply pw_below_drewN | apply below_drew1 | refine below_set ?_ GE176.out) | exact HB.out)) hb)
               clear HO_11
               clear BK176
               clear HB
               have HO_11 := n0_
               have BK176 := n1_
               have HB := n2_
               clear n0_ n1_ n2_
               (try clear hb)
               (try clear hb2)
               (try clear hk)
               (try clear hi)
               refine hK.out _ _ ⟨(blk_cell BK176.out 0).trans rfl, (blk_cell BK176.out 1).trans rfl, (blk_cell BK176.out 2).trans rfl, (blk_cell BK176.out 3).trans rfl, ((HB.out.cell (World.block_lt_of_cell? w _ hw177_0)).trans hw177_0), ((HB.out.cell (World.block_lt_of_cell? w _ hw177_1)).trans hw177_1), ((HB.out.cell (World.block_lt_of_cell? w _ hw177_2)).trans hw177_2), ((HB.out.cell (World.block_lt_of_cell? w _ hw177_3)).trans hw177_3)⟩ (fun hHeld => ?_)
               clear hK K
               refine norm_ (a' := ?_) ?_ ?_
               rotate_left
               · show Act.put _ (some 59) _ = _
                 simp only [Act.put, List.setIfInBounds_toArray, List.set_cons_zero, List.set_cons_succ, i64_w, i32_w]
                 rfl
               refine pure_ (i := 10) (N := some 49) (v := ?_) (a' := ?_) #[true, true, true, true, true, true, true, true, true, true, true, false, false, false, false] rfl rfl (any_of HT_.out (by kernel_rfl)) (fun _ _ _ h => h) (Or.inl ⟨by rfl, ?_⟩) ?_ ?_
               rotate_left
               · intro w'
                 go_simp
                 with_reducible rfl
               rotate_left
               · simp only [Act.put, List.setIfInBounds_toArray, List.set_cons_zero, List.set_cons_succ, i64_w, i32_w]
                 rfl
               refine pure_ (i := 11) (N := some 60) (v := ?_) (a' := ?_) #[true, true, true, true, true, true, true, true, true, true, true, true, false, false, false] rfl rfl (any_of HT_.out (by kernel_rfl)) (fun _ _ _ h => h) (Or.inl ⟨by rfl, ?_⟩) ?_ ?_
               rotate_left
               · intro w'
                 go_simp
                 with_reducible rfl
               rotate_left
               · simp only [Act.put, List.setIfInBounds_toArray, List.set_cons_zero, List.set_cons_succ, i64_w, i32_w]
                 rfl
               refine pure_ (i := 12) (N := some 61) (v := ?_) (a' := ?_) #[true, true, true, true, true, true, true, true, true, true, true, true, true, false, false] rfl rfl (any_of HT_.out (by kernel_rfl)) (fun _ _ _ h => h) (Or.inl ⟨by rfl, ?_⟩) ?_ ?_
               rotate_left
               · intro w'
                 go_simp
                 with_reducible rfl
               rotate_left
               · simp only [Act.put, List.setIfInBounds_toArray, List.set_cons_zero, List.set_cons_succ, i64_w, i32_w]
                 rfl
               refine pure_ (i := 13) (N := some 14) (v := ?_) (a' := ?_) #[true, true, true, true, true, true, true, true, true, true, true, true, true, true, false] rfl rfl (any_of HT_.out (by kernel_rfl)) (fun _ _ _ h => h) (Or.inl ⟨by rfl, ?_⟩) ?_ ?_
               rotate_left
               · intro w'
                 go_simp
                 with_reducible rfl
               rotate_left
               · simp only [Act.put, List.setIfInBounds_toArray, List.set_cons_zero, List.set_cons_succ, i64_w, i32_w]
                 rfl
               refine pure_ (i := 14) (N := some 15) (v := ?_) (a' := ?_) #[true, true, true, true, true, true, true, true, true, true, true, true, true, true, true] rfl rfl (any_of HT_.out (by kernel_rfl)) (fun _ _ _ h => h) (Or.inl ⟨by rfl, ?_⟩) ?_ ?_
               rotate_left
               · intro w'
                 go_simp
                 with_reducible rfl
               rotate_left
               · simp only [Act.put, List.setIfInBounds_toArray, List.set_cons_zero, List.set_cons_succ, i64_w, i32_w]
                 rfl
               refine done_ (done_of HT_.out (by kernel_rfl)) ?_
               have hczze1 : wze3.cell? ⟨gb176, 0, none⟩ = some (.int .i64 ((rd_T71 l0 x45_2).f0)) := (blk_cell BK176.out 0).trans rfl
               have hczze2 : wze3.cell? ⟨gb176, 1, none⟩ = some (.int .i64 ((rd_T71 l0 x45_2).f1.f0)) := (blk_cell BK176.out 1).trans rfl
               have hczze3 : wze3.cell? ⟨gb176, 2, none⟩ = some (.int .i64 ((rd_T71 l0 x45_2).f1.f1)) := (blk_cell BK176.out 2).trans rfl
               have hczze4 : wze3.cell? ⟨gb176, 3, none⟩ = some (.int .i64 ((rd_T71 l0 x45_2).f2)) := (blk_cell BK176.out 3).trans rfl
               have hfzze1 := blk_frozen BK176.out 0
               have hfzze2 := blk_frozen BK176.out 1
               have hfzze3 := blk_frozen BK176.out 2
               have hfzze4 := blk_frozen BK176.out 3
               try go_wp2_with (first | ((with_reducible refine gate_builtin (b := .append) (xs := #[.tmp 62, .tmp 69]) rfl ?_); at_builtin; refine Kd.R_append k88 (w0 := w) w.heap.size rfl (.tmp 62) (.tmp 69) 82 88 (.agg #[(.int .i64 0), (.int .i64 0), (.int .i64 0), (.int .i64 0), (.int .i64 0), (.int .i64 0)]) 48 rfl Try.underlying82 info88 rfl (by decide) (by omega) u11 x11_2 (⟨(⟨(rd_T71 l0 x45_2).f0, (⟨(rd_T71 l0 x45_2).f1.f0, (rd_T71 l0 x45_2).f1.f1⟩ : S36), (rd_T71 l0 x45_2).f2⟩ : S71), wrap64 (a1 + t178), a3⟩ : S88) [.int .i64 ((rd_T71 l0 x45_2).f0), .int .i64 ((rd_T71 l0 x45_2).f1.f0), .int .i64 ((rd_T71 l0 x45_2).f1.f1), .int .i64 ((rd_T71 l0 x45_2).f2), .int .i64 (wrap64 (a1 + t178)), .int .i64 a3] (fun _ => True) (fun _ => False) rfl rfl ?aP (fun _ hk => hk.elim) ?aF ?aO ?aB ?aS ?aL ?_; (case aP => exact k88_mkM _ _ _ (⟨(⟨(rd_T71 l0 x45_2).f0, (⟨(rd_T71 l0 x45_2).f1.f0, (rd_T71 l0 x45_2).f1.f1⟩ : S36), (rd_T71 l0 x45_2).f2⟩ : S71), wrap64 (a1 + t178), a3⟩ : S88)); (case aB => exact (by repeat (first | (with_reducible first | exact HB.out | apply below_alloc | apply pw_below_drewN | apply below_drew1 | refine below_set ?_ GE176.out) | exact HB.out))); (case aF => exact (fun _ _ => trivial)); (case aO => exact (by (with_reducible repeat (first | apply Kd.R_alloc | apply Kd.R_drewN | apply Kd.R_drew)); exact HO_11.out)); (case aS => exact (below_size (by repeat (first | (with_reducible first | exact HB.out | apply below_alloc | apply pw_below_drewN | apply below_drew1 | refine below_set ?_ GE176.out) | exact HB.out)))); (case aL => have := LMc20.out; omega); intro v181 wx0e941 ho hb hg hat; rw [← Ny180.out] at ho; have n0_ := Aside0.mk (blk_grown (g := gb176) (o := .cells #[.int .i64 ((rd_T71 l0 x45_2).f0), .int .i64 ((rd_T71 l0 x45_2).f1.f0), .int .i64 ((rd_T71 l0 x45_2).f1.f1), .int .i64 ((rd_T71 l0 x45_2).f2)] 71 (0, 0)) (by (with_reducible repeat (first | refine blk_drewN ?_ _ | refine blk_drew ?_ | refine blk_alloc ?_ _)); exact BK176.out) hg (Kd.R_ne HO_11.out BK176.out (by decide))); have n1_ := Aside0.mk (hb); have n2_ := Aside0.mk (ho); clear BK176; clear HB; clear HO_11; have BK176 := n0_; have HB := n1_; have HO182 := n2_; clear n0_ n1_ n2_; clear ho hb hg hat))
               go_roundg k2
               case measure => have := HJ6.out; have := HK2.out; omega
               case rel => exact ⟨(y180), (wrap64 (x45_2 + 1)), (by first | rfl | (simp; done) | (simp [*]; done)), H', ⟨by have := HJ6.out; have := HK2.out; omega⟩, ⟨by (with_reducible repeat (first | apply Kd.R_alloc | apply Kd.R_drewN | apply Kd.R_drew)); exact HO182.out⟩, ⟨by repeat (first | (with_reducible first | exact HB.out | apply below_alloc | apply pw_below_drewN | apply below_drew1 | refine below_set ?_ GE176.out) | exact HB.out)⟩⟩
             | (first | (have _hm := hm9_1) | (have _hm := hm9_2))
               go_wp2_with (first | ((with_reducible refine gate_callee (f := 39) rfl ?_); refine goesL_ (some 73) rfl rfl Try.func39 (by kernel_rfl) rfl #[.slice Aozc1 x11_2.length cozc1] rfl (by (try simp only [List.map_toArray, List.map_cons, List.map_nil]); first | done | rfl | (simp only [List.length_drop, List.length_take]; rfl)) ?_; (with_reducible refine (tube_Check.calls k2 _ _ x11_2 t183 _ ?side1 ?side2 A28.out).mono ?_); (case side1 => repeat (first | exact (Kd.R_reads' HO_11.out).2.2 | (with_reducible refine Kd.C_alloc ?_ _) | (with_reducible refine Kd.C_drewN ?_ _) | (with_reducible refine Kd.C_drew ?_))); (case side2 => exact (Kd.R_reads' HO_11.out).2.1); rintro e wx7d301 ⟨rfl, hb⟩; refine ⟨_, rfl, ?_⟩; have n0_ := Aside0.mk (Kd.R_below (by (with_reducible repeat (first | apply Kd.R_alloc | apply Kd.R_drewN | apply Kd.R_drew)); exact HO_11.out) hb); have n1_ := Aside0.mk (below_step (by repeat (first | (with_reducible first | exact HB.out | apply below_alloc | apply pw_below_drewN | apply below_drew1) | exact HB.out)) hb); clear HO_11; clear HB; have HO_11 := n0_; have HB := n1_; clear n0_ n1_; (try clear hb); (try clear hb2); (try clear hk); (try clear hi)) | ((with_reducible refine gate_callee (f := 39) rfl ?_); refine goesL_ (some 73) rfl rfl Try.func39 (by kernel_rfl) rfl #[.slice Aozc2 x11_2.length cozc2] rfl (by (try simp only [List.map_toArray, List.map_cons, List.map_nil]); first | done | rfl | (simp only [List.length_drop, List.length_take]; rfl)) ?_; (with_reducible refine (tube_Check.calls k2 _ _ x11_2 t183 _ ?side1 ?side2 A28.out).mono ?_); (case side1 => repeat (first | exact (Kd.R_reads' HO_11.out).2.2 | (with_reducible refine Kd.C_alloc ?_ _) | (with_reducible refine Kd.C_drewN ?_ _) | (with_reducible refine Kd.C_drew ?_))); (case side2 => exact (Kd.R_reads' HO_11.out).2.1); rintro e wxb8451 ⟨rfl, hb⟩; refine ⟨_, rfl, ?_⟩; have n0_ := Aside0.mk (Kd.R_below (by (with_reducible repeat (first | apply Kd.R_alloc | apply Kd.R_drewN | apply Kd.R_drew)); exact HO_11.out) hb); have n1_ := Aside0.mk (below_step (by repeat (first | (with_reducible first | exact HB.out | apply below_alloc | apply pw_below_drewN | apply below_drew1) | exact HB.out)) hb); clear HO_11; clear HB; have HO_11 := n0_; have HB := n1_; clear n0_ n1_; (try clear hb); (try clear hb2); (try clear hk); (try clear hi)))
               go_ret2
               first
                | clear hm9_1
                  exact ⟨_, by first | rfl | (simp [errW_none, errW_some] <;> rfl) | (simp [*, errW_none, errW_some] <;> rfl), by (with_reducible repeat (first | apply Kd.R_alloc | apply Kd.R_drewN | apply Kd.R_drew)); exact HO_11.out, by repeat (first | (with_reducible first | exact HB.out | apply below_alloc | apply pw_below_drewN | apply below_drew1) | exact HB.out)⟩
                | clear hm9_2
                  exact ⟨_, by first | rfl | (simp [errW_none, errW_some] <;> rfl) | (simp [*, errW_none, errW_some] <;> rfl), by first | exact Kd.R_nil _ _ _ _ _ | exact Kd.N_nil _ _ _ _ _ | exact Kd.V_nil _ _ _ _ _ | exact Kd.Q_nil _ _ _ _ _ | exact Kd.S_nil _ _ _ _ _, by repeat (first | (with_reducible first | exact HB.out | apply below_alloc | apply pw_below_drewN | apply below_drew1) | exact HB.out)⟩
   | clear hm1_1
     go_wp2_with (first | ((with_reducible refine gate_callee (f := 76) rfl ?_); refine goesL_ (some 17) rfl rfl Try.func76 (by kernel_rfl) rfl #[.slice A0 l0.length c0] rfl (by (try simp only [List.map_toArray, List.map_cons, List.map_nil]); first | done | rfl | (simp only [List.length_drop, List.length_take]; rfl)) ?_; (with_reducible refine (fly_Check.calls k _ _ l0 t174 _ ?side1 ?side2 A5.out).mono ?_); (case side1 => repeat (first | exact HR0.out | (with_reducible refine Kd.C_alloc ?_ _) | (with_reducible refine Kd.C_drewN ?_ _) | (with_reducible refine Kd.C_drew ?_))); (case side2 => exact HC0.out); rintro e wx3de91 ⟨rfl, hb⟩; refine ⟨_, rfl, ?_⟩; have n0_ := Aside0.mk (below_step (by repeat (first | (with_reducible first | exact HB.out | apply below_alloc | apply pw_below_drewN | apply below_drew1) | exact HB.out)) hb); clear HB; have HB := n0_; clear n0_; (try clear hb); (try clear hb2); (try clear hk); (try clear hi)))
     go_ret2
     exact ⟨_, by first | rfl | (simp [errW_none, errW_some] <;> rfl) | (simp [*, errW_none, errW_some] <;> rfl), by first | exact Kd.R_nil _ _ _ _ _ | exact Kd.N_nil _ _ _ _ _ | exact Kd.V_nil _ _ _ _ _ | exact Kd.Q_nil _ _ _ _ _ | exact Kd.S_nil _ _ _ _ _, by repeat (first | (with_reducible first | exact HB.out | apply below_alloc | apply pw_below_drewN | apply below_drew1) | exact HB.out)⟩

/-! ### skywaykeep1_node: function 84 -/
def skywaykeep1_node.f (a0 : Int) (a1 : Int) (a2 : Int) (a3 : Int) (a4 : Int) (a5 : Int) : Option (Int × Int × Int × Int × Int × Int) := some (a0, a1, a2, a3, a4, a5)
set_option maxHeartbeats 8000000 in
set_option maxRecDepth 100000 in
theorem skywaykeep1_node.calls (a0 : Int) (a1 : Int) (a2 : Int) (a3 : Int) (a4 : Int) (a5 : Int) (r1 : Int) (r2 : Int) (r3 : Int) (r4 : Int) (r5 : Int) (r6 : Int) (w : World) (h : skywaykeep1_node.f a0 a1 a2 a3 a4 a5 = some (r1, r2, r3, r4, r5, r6)) :
    Calls Try.prog 84 #[.int .i64 a0, .int .i64 a1, .int .i64 a2, .int .i64 a3, .int .i64 a4, .int .i64 a5] w fun e w' => e = .returned (.agg #[.int .i64 r1, .int .i64 r2, .int .i64 r3, .int .i64 r4, .int .i64 r5, .int .i64 r6]) ∧ Below w.heap.size w w' := by
 have hu88 := Try.underlying88
 have hu36 := Try.underlying36
 have hu71 := Try.underlying71
 have HB := Aside0.mk (Below.refl w.heap.size w)
 have H : (some (a0, a1, a2, a3, a4, a5)) = some (r1, r2, r3, r4, r5, r6) := h
 clear h
 simp only [Option.some.injEq, Prod.mk.injEq] at H
 obtain ⟨rfl, rfl, rfl, rfl, rfl, rfl⟩ := H
 go_enter Try.func84, Try.ntmps84
 go_wp2_with (first | ((with_reducible refine gate_dst (N := 12) rfl ?_); refine box_event ?hg (N := 12) ?hd (cs := #[.int .i64 0, .int .i64 0, .int .i64 0, .int .i64 0, .int .i64 0, .int .i64 0]) (t := 88) ?hr ?_; (case hd => rfl); (case hg => rfl); (case hr => first | (go_simp; done) | (go_simp; rfl)); intro gb184 hg w7 hbox hb; have n0_ := Aside0.mk (below_step (by repeat (first | (with_reducible first | exact HB.out | apply below_alloc | apply pw_below_drewN | apply below_drew1) | exact HB.out)) hb); have n1_ := Aside0.mk (hbox); have n2_ := Aside0.mk ((by rw [hg]; exact (below_size (by repeat (first | (with_reducible first | exact HB.out | apply below_alloc | apply pw_below_drewN | apply below_drew1) | exact HB.out))) : w.heap.size ≤ gb184)); have n3_ := Aside0.mk ((by rw [hg]; exact (below_size (by repeat (first | (with_reducible first | exact HB.out | apply below_alloc | apply pw_below_drewN | apply below_drew1) | exact HB.out))) : w.heap.size ≤ gb184)); clear HB; have HB := n0_; have BK184 := n1_; have GW184 := n2_; have GE184 := n3_; clear n0_ n1_ n2_ n3_; clear hb hbox hg; have hcz8_0 : w7.cell? ⟨gb184, 0, none⟩ = some (.int .i64 0) := (blk_cell BK184.out 0).trans rfl; have hcz8_1 : w7.cell? ⟨gb184, 1, none⟩ = some (.int .i64 0) := (blk_cell BK184.out 1).trans rfl; have hcz8_2 : w7.cell? ⟨gb184, 2, none⟩ = some (.int .i64 0) := (blk_cell BK184.out 2).trans rfl; have hcz8_3 : w7.cell? ⟨gb184, 3, none⟩ = some (.int .i64 0) := (blk_cell BK184.out 3).trans rfl; have hcz8_4 : w7.cell? ⟨gb184, 4, none⟩ = some (.int .i64 0) := (blk_cell BK184.out 4).trans rfl; have hcz8_5 : w7.cell? ⟨gb184, 5, none⟩ = some (.int .i64 0) := (blk_cell BK184.out 5).trans rfl; have hfz8_0 := blk_frozen BK184.out 0; have hfz8_1 := blk_frozen BK184.out 1; have hfz8_2 := blk_frozen BK184.out 2; have hfz8_3 := blk_frozen BK184.out 3; have hfz8_4 := blk_frozen BK184.out 4; have hfz8_5 := blk_frozen BK184.out 5))
 refine bodyPost_ret (results_cell_row rfl _ _ gb184 88 #[.int .i64 a0, .int .i64 a1, .int .i64 a2, .int .i64 a3, .int .i64 a4, .int .i64 a5] (0, 0) _ rfl (by (with_reducible repeat (first | refine blk_drewN ?_ _ | refine blk_drew ?_ | refine blk_alloc ?_ _)); refine blk_put (cs := #[.int .i64 a0, .int .i64 a1, .int .i64 a2, .int .i64 a3, .int .i64 a4, .int .i64 0]) ?_ 5 _ rfl; (with_reducible repeat (first | refine blk_drewN ?_ _ | refine blk_drew ?_ | refine blk_alloc ?_ _)); refine blk_put (cs := #[.int .i64 a0, .int .i64 a1, .int .i64 a2, .int .i64 a3, .int .i64 0, .int .i64 0]) ?_ 4 _ rfl; (with_reducible repeat (first | refine blk_drewN ?_ _ | refine blk_drew ?_ | refine blk_alloc ?_ _)); refine blk_put (cs := #[.int .i64 a0, .int .i64 a1, .int .i64 a2, .int .i64 0, .int .i64 0, .int .i64 0]) ?_ 3 _ rfl; (with_reducible repeat (first | refine blk_drewN ?_ _ | refine blk_drew ?_ | refine blk_alloc ?_ _)); refine blk_put (cs := #[.int .i64 a0, .int .i64 a1, .int .i64 0, .int .i64 0, .int .i64 0, .int .i64 0]) ?_ 2 _ rfl; (with_reducible repeat (first | refine blk_drewN ?_ _ | refine blk_drew ?_ | refine blk_alloc ?_ _)); refine blk_put (cs := #[.int .i64 a0, .int .i64 0, .int .i64 0, .int .i64 0, .int .i64 0, .int .i64 0]) ?_ 1 _ rfl; (with_reducible repeat (first | refine blk_drewN ?_ _ | refine blk_drew ?_ | refine blk_alloc ?_ _)); refine blk_put (cs := #[.int .i64 0, .int .i64 0, .int .i64 0, .int .i64 0, .int .i64 0, .int .i64 0]) ?_ 0 _ rfl; (with_reducible repeat (first | refine blk_drewN ?_ _ | refine blk_drew ?_ | refine blk_alloc ?_ _)); exact BK184.out) Try.underlying88 rfl (by kernel_rfl)) rfl ?_
 exact ⟨by first | rfl | (simp [errW_none, errW_some] <;> rfl) | (simp [*, errW_none, errW_some] <;> rfl), by repeat (first | (with_reducible first | exact HB.out | apply below_alloc | apply pw_below_drewN | apply below_drew1 | refine below_set ?_ GE184.out) | exact HB.out)⟩

end Go.Proofs.Ytbpbpojnfhhbjaa.PTubeAll
