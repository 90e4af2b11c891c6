/- Made by a program of this session (wip/tools/myprint.py, over the kit's printer): that the Go functions answer as the Lean functions printed beside them. -/
import Derived.Test.YteaddpieonkboaaPVolumeUnionx0
import Derived.Test.YteaddpieonkboaaPVolumeUnionx2
import Derived.Test.YteaddpieonkboaaPVolumeUnionx3
namespace Go.Proofs.Yteaddpieonkboaa.PVolumeUnion
open Go.RowKit Go.Proofs.YteaddpieonkboaaW.PrintWords Go.Proofs.YteaddpieonkboaaW.PrintLast Go.Proofs.YteaddpieonkboaaW.PrintMore
attribute [local go_sem] max2_int min2_int max_two min_two max_three min_three max_four min_four   -- for this text's walks alone
set_option linter.unusedVariables false
set_option linter.unusedSimpArgs false

/-! ### volume_Free: function 32 -/
mutual
def volume_Free.j0 : Nat → Int → Int → List (S58) → Bool → Option ((List (S58)) × Int)
  | 0, _, _, _, _ => none
  | k + 1, x1, x2, x8, x33 => if x33 = true then (some (([] : List (S58)), 12)) else (volume_Free.l0 k x2 ([] : List (S58)) x1 x8 (x8.length : Int) 0)
def volume_Free.l0 : Nat → Int → List (S58) → Int → List (S58) → Int → Int → Option ((List (S58)) × Int)
  | 0, _, _, _, _, _, _ => none
  | k + 1, x2, x10, x11, x35, x36, x37 => if x37 < x36 then (if 0 ≤ x37 then (if x37 < (x35.length : Int) then (if x11 < (mn ((rd_T58 x35 x37).f0) x2) then (if x10.length < 8796093022208 then (volume_Free.l0 k x2 (x10 ++ [(⟨x11, mn ((rd_T58 x35 x37).f0) x2⟩ : S58)]) (mx x11 ((rd_T58 x35 x37).f1)) x35 x36 (wrap64 (x37 + 1))) else (none)) else (volume_Free.l0 k x2 x10 (mx x11 ((rd_T58 x35 x37).f1)) x35 x36 (wrap64 (x37 + 1)))) else (none)) else (none)) else (if x11 < x2 then (if x10.length < 8796093022208 then (some ((x10 ++ [(⟨x11, x2⟩ : S58)]), 0)) else (none)) else (some (x10, 0)))
end
def volume_Free.f (k : Nat) (l0 : List (S58)) (a1 : Int) (a2 : Int) : Option ((List (S58)) × Int) := (volume_Union.f k l0).bind fun bt136 => (if bt136.2 = 0 then (if a1 < 0 then (volume_Free.j0 k a1 a2 bt136.1 true) else (if a2 > 200000 then (volume_Free.j0 k a1 a2 bt136.1 true) else (volume_Free.j0 k a1 a2 bt136.1 (decide (a1 > a2))))) else (some (([] : List (S58)), bt136.2)))
theorem volume_Free.mono_l : ∀ k, (∀ y0 y1 y2 y3, LeO (volume_Free.j0 k y0 y1 y2 y3) (volume_Free.j0 (k + 1) y0 y1 y2 y3)) ∧ (∀ y0 y1 y2 y3 y4 y5, LeO (volume_Free.l0 k y0 y1 y2 y3 y4 y5) (volume_Free.l0 (k + 1) y0 y1 y2 y3 y4 y5))
  | 0 => ⟨fun _ _ _ _ r h => by simp [volume_Free.j0] at h, fun _ _ _ _ _ _ r h => by simp [volume_Free.l0] at h⟩
  | k + 1 => by
    obtain ⟨ih0, ih1⟩ := volume_Free.mono_l k
    refine ⟨?_, ?_⟩
    · intro y0 y1 y2 y3
      unfold volume_Free.j0
      repeat' first
      | (with_reducible exact ih0 _ _ _ _)
      | (with_reducible exact ih1 _ _ _ _ _ _)
      | (with_reducible exact volume_Union.mono _ _)
      | (with_reducible exact LeO.refl _)
      | (with_reducible exact LeO.none _)
      | (with_reducible refine LeO.ite ?_ ?_)
      | (with_reducible refine LeO.bind ?_ (fun _ => ?_))
      | exact ih0 _ _ _ _
      | exact ih1 _ _ _ _ _ _
      | exact volume_Union.mono _ _
      | exact LeO.none _
      | refine LeO.ite ?_ ?_
      | refine LeO.bind ?_ (fun _ => ?_)
    · intro y0 y1 y2 y3 y4 y5
      unfold volume_Free.l0
      repeat' first
      | (with_reducible exact ih0 _ _ _ _)
      | (with_reducible exact ih1 _ _ _ _ _ _)
      | (with_reducible exact volume_Union.mono _ _)
      | (with_reducible exact LeO.refl _)
      | (with_reducible exact LeO.none _)
      | (with_reducible refine LeO.ite ?_ ?_)
      | (with_reducible refine LeO.bind ?_ (fun _ => ?_))
      | exact ih0 _ _ _ _
      | exact ih1 _ _ _ _ _ _
      | exact volume_Union.mono _ _
      | exact LeO.none _
      | refine LeO.ite ?_ ?_
      | refine LeO.bind ?_ (fun _ => ?_)
theorem volume_Free.mono : ∀ a0 a1 a2 k, LeO (volume_Free.f k a0 a1 a2) (volume_Free.f (k + 1) a0 a1 a2) := by
  intro a0 a1 a2 k
  obtain ⟨ih0, ih1⟩ := volume_Free.mono_l k
  unfold volume_Free.f
  repeat' first
      | (with_reducible exact ih0 _ _ _ _)
      | (with_reducible exact ih1 _ _ _ _ _ _)
      | (with_reducible exact volume_Union.mono _ _)
      | (with_reducible exact LeO.refl _)
      | (with_reducible exact LeO.none _)
      | (with_reducible refine LeO.ite ?_ ?_)
      | (with_reducible refine LeO.bind ?_ (fun _ => ?_))
      | exact ih0 _ _ _ _
      | exact ih1 _ _ _ _ _ _
      | exact volume_Union.mono _ _
      | exact LeO.none _
      | refine LeO.ite ?_ ?_
      | refine LeO.bind ?_ (fun _ => ?_)
set_option maxHeartbeats 8000000 in
set_option maxRecDepth 100000 in
theorem volume_Free.calls (k : Nat) (A0 : Option Addr) (c0 : Nat) (l0 : List (S58)) (a1 : Int) (a2 : Int) (r1 : List (S58)) (r2 : Int) (w : World) (hr0 : Kd.C k58 w A0 l0.length l0) (hc0 : l0.length ≤ c0) (h : volume_Free.f k l0 a1 a2 = some (r1, r2)) :
    Calls Try.prog 32 #[.slice A0 l0.length c0, .int .i64 a1, .int .i64 a2] w fun e w' => ∃ v0_ : Value, e = .returned (.tuple #[v0_, .int .i64 r2]) ∧ Kd.R k58 58 w' w.heap.size (fun _ => True) v0_ r1 ∧ Below w.heap.size w w' := by
 have hu58 := Try.underlying58
 have HR0 := Aside0.mk hr0
 have HC0 := Aside0.mk hc0
 clear hr0 hc0
 have HB := Aside0.mk (Below.refl w.heap.size w)
 have H : ((volume_Union.f k l0).bind fun bt136 => (if bt136.2 = 0 then (if a1 < 0 then (volume_Free.j0 k a1 a2 bt136.1 true) else (if a2 > 200000 then (volume_Free.j0 k a1 a2 bt136.1 true) else (volume_Free.j0 k a1 a2 bt136.1 (decide (a1 > a2))))) else (some (([] : List (S58)), bt136.2)))) = some (r1, r2) := h
 clear h
 replace H := Option.bind_eq_some_iff.mp H
 obtain ⟨⟨t136, t137⟩, A40, H⟩ := H
 replace H : (if t137 = 0 then (if a1 < 0 then (volume_Free.j0 k a1 a2 t136 true) else (if a2 > 200000 then (volume_Free.j0 k a1 a2 t136 true) else (volume_Free.j0 k a1 a2 t136 (decide (a1 > a2))))) else (some (([] : List (S58)), t137))) = some (r1, r2) := H
 have A4 := Aside0.mk A40
 clear A40
 refine Or.elim (Classical.em (t137 = 0)) (fun c5 => ?p2_) (fun c5 => ?n2_)
 case' p2_ =>
  rw [if_pos c5] at H
  have c5b0 : (t137 == 0) = true := beq_iff_eq.mpr c5
  have c5b1 : (t137 != 0) = false := bne_eq_false_iff_eq.mpr c5
  clear c5
  have HC6 := Aside0.mk H
  clear H
  have hm1_0 := Aside0.mk trivial
 case' n2_ =>
  rw [if_neg c5] at H
  have c5b0 : (t137 == 0) = false := beq_eq_false_iff_ne.mpr c5
  have c5b1 : (t137 != 0) = true := bne_iff_ne.mpr c5
  simp only [Option.some.injEq, Prod.mk.injEq] at H
  obtain ⟨rfl, rfl⟩ := H
  have hm1_1 := Aside0.mk trivial
 all_goals
  go_enter Try.func32, Try.ntmps32
  first
   | clear hm1_0
     go_upto_region 4 with (first | ((with_reducible refine gate_callee (f := 33) rfl ?_); refine goesL_ (some 17) rfl rfl Try.func33 (by kernel_rfl) rfl #[.slice A0 l0.length c0] rfl (by (try simp only [List.map_toArray, List.map_cons, List.map_nil]); first | done | rfl | (simp only [List.length_drop, List.length_take]; rfl)) ?_; (with_reducible refine (volume_Union.calls k _ _ l0 t136 t137 _ ?side1 ?side2 A4.out).mono ?_); (case side1 => repeat (first | exact HR0.out | (with_reducible refine Kd.C_alloc ?_ _) | (with_reducible refine Kd.C_drewN ?_ _) | (with_reducible refine Kd.C_drew ?_))); (case side2 => exact HC0.out); rintro e wx3de91 ⟨v138, rfl, hox3de91, hb⟩; refine ⟨_, rfl, ?_⟩; have n0_ := Aside0.mk (Kd.R_lower hox3de91 (below_size (by repeat (first | (with_reducible first | exact HB.out | apply below_alloc | apply pw_below_drewN | apply below_drew1) | exact HB.out)))); have n1_ := Aside0.mk (below_step (by repeat (first | (with_reducible first | exact HB.out | apply below_alloc | apply pw_below_drewN | apply below_drew1) | exact HB.out)) hb); clear HB; have HO139 := n0_; have HB := n1_; clear n0_ n1_; (try clear hb); (try clear hb2); (try clear hk); (try clear hi); (try clear hox3de91)))
     (try simp only [Act.put, List.setIfInBounds_toArray, List.set_cons_zero, List.set_cons_succ])
     go_cut [33] (fun v33 wc => ∃ (kq : Nat) (x33_5 : Bool), v33 = .bool x33_5 ∧ Aside0 (volume_Free.j0 kq a1 a2 t136 x33_5 = some (r1, r2)) ∧ Aside0 (kq ≤ k) ∧ Aside0 (Kd.R k58 58 wc w.heap.size (fun _ => True) v138 t136) ∧ Aside0 (Below w.heap.size w wc))
     case first =>
      have H := HC6.out
      clear HC6
      refine Or.elim (Classical.em (a1 < 0)) (fun c8 => ?p4_) (fun c8 => ?n4_)
      case' p4_ =>
       rw [if_pos c8] at H
       have c8b0 : decide (a1 < 0) = true := decide_eq_true c8
       clear c8
       (first | rw [c8b0] | (simp only [i64_w, i32_w]; rw [c8b0]) | skip)
      case' n4_ =>
       rw [if_neg c8] at H
       have c8b0 : decide (a1 < 0) = false := decide_eq_false c8
       clear c8
       (first | rw [c8b0] | (simp only [i64_w, i32_w]; rw [c8b0]) | skip)
       refine Or.elim (Classical.em (a2 > 200000)) (fun c9 => ?p5_) (fun c9 => ?n5_)
       case' p5_ =>
        rw [if_pos c9] at H
        have c9b0 : decide (200000 < a2) = true := decide_eq_true c9
        clear c9
       case' n5_ =>
        rw [if_neg c9] at H
        have c9b0 : decide (200000 < a2) = false := decide_eq_false c9
        clear c9
      all_goals
       have H' := Aside0.mk H
       clear H
       go_wp2
       go_meet
       case rel => first | (exact ⟨_, (true), (by first | rfl | (simp; done) | (simp [*]; done)), H', ⟨by first | omega | exact Nat.le_refl _⟩, ⟨by (with_reducible repeat (first | apply Kd.R_alloc | apply Kd.R_drewN | apply Kd.R_drew)); exact HO139.out⟩, ⟨by repeat (first | (with_reducible first | exact HB.out | apply below_alloc | apply pw_below_drewN | apply below_drew1) | exact HB.out)⟩⟩) | (exact ⟨_, (decide (a1 > a2)), (by first | rfl | (simp; done) | (simp [*]; done)), H', ⟨by first | omega | exact Nat.le_refl _⟩, ⟨by (with_reducible repeat (first | apply Kd.R_alloc | apply Kd.R_drewN | apply Kd.R_drew)); exact HO139.out⟩, ⟨by repeat (first | (with_reducible first | exact HB.out | apply below_alloc | apply pw_below_drewN | apply below_drew1) | exact HB.out)⟩⟩)
     case rest =>
      clear HC6
      (try clear p2); (try clear c3); (try clear c5); (try clear c5b0); (try clear c5b1); (try clear c8); (try clear c8b0); (try clear c9); (try clear c9b0)
      obtain ⟨kq, x33_5, rfl, HA, HJ5, HO_8, HB⟩ := hcut
      cases kq with
      | zero => exact absurd HA.out (by simp [volume_Free.j0])
      | succ kj5 =>
       have H := HA.out
       clear HA
       simp only [volume_Free.j0] at H
       by_cases c10 : x33_5 = true
       · subst c10
         have H1 : (some (([] : List (S58)), 12)) = some (r1, r2) := by rw [if_pos rfl] at H; exact H
         clear H
         have H := H1
         clear H1
         simp only [Option.some.injEq, Prod.mk.injEq] at H
         obtain ⟨rfl, rfl⟩ := H
         go_wp2
         go_ret2
         exact ⟨_, by first | rfl | (simp [errW_none, errW_some] <;> rfl) | (simp [*, errW_none, errW_some] <;> rfl), by first | exact Kd.R_nil _ _ _ _ _ | exact Kd.N_nil _ _ _ _ _ | exact Kd.V_nil _ _ _ _ _ | exact Kd.Q_nil _ _ _ _ _ | exact Kd.S_nil _ _ _ _ _, by repeat (first | (with_reducible first | exact HB.out | apply below_alloc | apply pw_below_drewN | apply below_drew1) | exact HB.out)⟩
       · replace c10 := Bool.eq_false_iff.mpr c10
         subst c10
         have H1 : (volume_Free.l0 kj5 a2 ([] : List (S58)) a1 t136 (t136.length : Int) 0) = some (r1, r2) := by rw [if_neg (show ¬ (false = true) by decide)] at H; exact H
         clear H
         have H := H1
         clear H1
         have H' := Aside0.mk H
         clear H
         obtain ⟨Aozc1, cozc1, eozc1⟩ := Kd.R_slice HO_8.out
         subst eozc1
         go_wp2
         go_loopg [10, 11, 37] kj5 (fun kq v10 v11 v37 w' => ∃ (x10_2 : List (S58)) (x11_2 : Int) (x37_2 : Int), v11 = .int .i64 x11_2 ∧ v37 = .int .i64 x37_2 ∧ Aside0 (volume_Free.l0 kq a2 x10_2 x11_2 t136 (t136.length : Int) x37_2 = some (r1, r2)) ∧ Aside0 (kq ≤ kj5) ∧ Aside0 (Kd.R k58 58 w' w.heap.size (fun k_ => some k_ ≠ ((.slice Aozc1 t136.length cozc1) : Value).ownBlock) v10 x10_2) ∧ Aside0 (Kd.R k58 58 w' w.heap.size (fun k_ => some k_ ≠ (v10 : Value).ownBlock) (.slice Aozc1 t136.length cozc1) t136) ∧ Aside0 (Below w.heap.size w w'))
         case atStart => exact ⟨(([] : List (S58))), (a1), (0), (by first | rfl | (simp; done) | (simp [*]; done)), (by first | rfl | (simp; done) | (simp [*]; done)), H', ⟨Nat.le_refl _⟩, ⟨by first | exact Kd.R_nil _ _ _ _ _ | exact Kd.N_nil _ _ _ _ _ | exact Kd.V_nil _ _ _ _ _ | exact Kd.Q_nil _ _ _ _ _ | exact Kd.S_nil _ _ _ _ _⟩, ⟨by (with_reducible repeat (first | apply Kd.R_alloc | apply Kd.R_drewN | apply Kd.R_drew)); exact Kd.R_mono HO_8.out (fun _ hk => (by simp [Value.ownBlock]))⟩, ⟨by repeat (first | (with_reducible first | exact HB.out | apply below_alloc | apply pw_below_drewN | apply below_drew1) | exact HB.out)⟩⟩
         case round =>
          clear H'
          (try clear c1); (try clear p2); (try clear c3); (try clear c5); (try clear c5b0); (try clear c5b1); (try clear c8); (try clear c8b0); (try clear c9); (try clear c9b0); (try clear c10); (try clear p2)
          obtain ⟨x10_2, x11_2, x37_2, rfl, rfl, HA, HK2, HO_10, HO_35, HB⟩ := hrel
          cases gk with
          | zero => exact absurd HA.out (by simp [volume_Free.l0])
          | succ k2 =>
           have H := HA.out
           clear HA
           simp only [volume_Free.l0] at H
           refine Or.elim (Classical.em (x37_2 < (t136.length : Int))) (fun c12 => ?p7_) (fun c12 => ?n7_)
           case' p7_ =>
            rw [if_pos c12] at H
            have c12b0 : decide (x37_2 < (t136.length : Int)) = true := decide_eq_true c12
            clear c12
            refine Or.elim (Classical.em (0 ≤ x37_2)) (fun c13 => ?p8_) (fun c13 => ?n8_)
            case' p8_ =>
             rw [if_pos c13] at H
             have c13b0 : decide (0 ≤ x37_2) = true := decide_eq_true c13
             clear c13
             refine Or.elim (Classical.em (x37_2 < (t136.length : Int))) (fun c14 => ?p9_) (fun c14 => ?n9_)
             case' p9_ =>
              rw [if_pos c14] at H
              have c14b0 : decide (x37_2 < (t136.length : Int)) = true := decide_eq_true c14
              clear c14
              obtain ⟨ji15, hji15⟩ : ∃ j_ : Int, (mn ((rd_T58 t136 x37_2).f0) a2) = j_ := ⟨_, rfl⟩
              replace H : (if x11_2 < (ji15) then (if x10_2.length < 8796093022208 then (volume_Free.l0 k2 a2 (x10_2 ++ [(⟨x11_2, ji15⟩ : S58)]) (mx x11_2 ((rd_T58 t136 x37_2).f1)) t136 (t136.length : Int) (wrap64 (x37_2 + 1))) else (none)) else (volume_Free.l0 k2 a2 x10_2 (mx x11_2 ((rd_T58 t136 x37_2).f1)) t136 (t136.length : Int) (wrap64 (x37_2 + 1)))) = some (r1, r2) := by first | (rw [hji15] at H; exact H) | (simp only [hji15] at H ⊢; exact H)
              have hji15_ : (if a2 < ((rd_T58 t136 x37_2).f0) then a2 else ((rd_T58 t136 x37_2).f0)) = ji15 := hji15
              refine Or.elim (Classical.em (x11_2 < (ji15))) (fun c16 => ?p10_) (fun c16 => ?n10_)
              case' p10_ =>
               rw [if_pos c16] at H
               have c16b0 : decide (x11_2 < (ji15)) = true := decide_eq_true c16
               clear c16
               refine Or.elim (Classical.em (x10_2.length < 8796093022208)) (fun c17 => ?p11_) (fun c17 => ?n11_)
               case' p11_ =>
                rw [if_pos c17] at H
                have LMc17 := Aside0.mk c17
                clear c17
                obtain ⟨y142, hy142⟩ : ∃ y_ : List (S58), y_ = (x10_2 ++ [(⟨x11_2, ji15⟩ : S58)]) := ⟨_, rfl⟩
                replace H : (volume_Free.l0 k2 a2 y142 (mx x11_2 ((rd_T58 t136 x37_2).f1)) t136 (t136.length : Int) (wrap64 (x37_2 + 1))) = some (r1, r2) := by first | (rw [hy142]; with_reducible exact H) | (have H2_ := (Option.bind_some _ _).symm.trans H; rw [hy142]; with_reducible exact H2_) | (have H2_ := (Option.bind_some _ _).symm.trans H; with_reducible exact H2_) | with_reducible exact H | (rw [hy142]; exact H) | exact H
                have Ny142 := Aside0.mk hy142
                clear hy142
                obtain ⟨ji18, hji18⟩ : ∃ j_ : Int, (mx x11_2 ((rd_T58 t136 x37_2).f1)) = j_ := ⟨_, rfl⟩
                replace H : (volume_Free.l0 k2 a2 y142 ji18 t136 (t136.length : Int) (wrap64 (x37_2 + 1))) = some (r1, r2) := by first | (rw [hji18] at H; exact H) | (simp only [hji18] at H ⊢; exact H)
                have hji18_ : (if x11_2 < ((rd_T58 t136 x37_2).f1) then ((rd_T58 t136 x37_2).f1) else x11_2) = ji18 := hji18
                have hm6_0 := Aside0.mk trivial
               case' n11_ =>
                rw [if_neg c17] at H
                exact absurd H (by simp)
              case' n10_ =>
               rw [if_neg c16] at H
               have c16b0 : decide (x11_2 < (ji15)) = false := decide_eq_false c16
               clear c16
               obtain ⟨ji23, hji23⟩ : ∃ j_ : Int, (mx x11_2 ((rd_T58 t136 x37_2).f1)) = j_ := ⟨_, rfl⟩
               replace H : (volume_Free.l0 k2 a2 x10_2 ji23 t136 (t136.length : Int) (wrap64 (x37_2 + 1))) = some (r1, r2) := by first | (rw [hji23] at H; exact H) | (simp only [hji23] at H ⊢; exact H)
               have hji23_ : (if x11_2 < ((rd_T58 t136 x37_2).f1) then ((rd_T58 t136 x37_2).f1) else x11_2) = ji23 := hji23
               have hm6_1 := Aside0.mk trivial
             case' n9_ =>
              rw [if_neg c14] at H
              exact absurd H (by simp)
            case' n8_ =>
             rw [if_neg c13] at H
             exact absurd H (by simp)
           case' n7_ =>
            rw [if_neg c12] at H
            have c12b0 : decide (x37_2 < (t136.length : Int)) = false := decide_eq_false c12
            clear c12
            refine Or.elim (Classical.em (x11_2 < a2)) (fun c26 => ?p12_) (fun c26 => ?n12_)
            case' p12_ =>
             rw [if_pos c26] at H
             have c26b0 : decide (x11_2 < a2) = true := decide_eq_true c26
             clear c26
             refine Or.elim (Classical.em (x10_2.length < 8796093022208)) (fun c27 => ?p13_) (fun c27 => ?n13_)
             case' p13_ =>
              rw [if_pos c27] at H
              have LMc27 := Aside0.mk c27
              clear c27
              obtain ⟨y145, hy145⟩ : ∃ y_ : List (S58), y_ = (x10_2 ++ [(⟨x11_2, a2⟩ : S58)]) := ⟨_, rfl⟩
              replace H : (some (y145, 0)) = some (r1, r2) := by first | (rw [hy145]; with_reducible exact H) | (have H2_ := (Option.bind_some _ _).symm.trans H; rw [hy145]; with_reducible exact H2_) | (have H2_ := (Option.bind_some _ _).symm.trans H; with_reducible exact H2_) | with_reducible exact H | (rw [hy145]; exact H) | exact H
              have Ny145 := Aside0.mk hy145
              clear hy145
              simp only [Option.some.injEq, Prod.mk.injEq] at H
              obtain ⟨rfl, rfl⟩ := H
              have hm6_2 := Aside0.mk trivial
             case' n13_ =>
              rw [if_neg c27] at H
              exact absurd H (by simp)
            case' n12_ =>
             rw [if_neg c26] at H
             have c26b0 : decide (x11_2 < a2) = false := decide_eq_false c26
             clear c26
             simp only [Option.some.injEq, Prod.mk.injEq] at H
             obtain ⟨rfl, rfl⟩ := H
             have hm6_3 := Aside0.mk trivial
           all_goals
            first
             | (first | (have _hm := hm6_0) | (have _hm := hm6_1))
               have H' := Aside0.mk H
               clear H
               have p140 : 0 ≤ (x37_2 : Int) := of_decide_eq_true (by first | (with_reducible assumption) | assumption)
               have q140 : x37_2 < (t136.length : Int) := of_decide_eq_true (by first | (with_reducible assumption) | assumption)
               obtain ⟨ad140, e140, hx140_0, hx140_1⟩ := at_T58 (Kd.R_reads' HO_35.out).2.2 x37_2 p140 q140
               cases e140
               replace p140 := eq_true p140
               replace q140 := eq_true q140
               go_wp2_with (first | ((with_reducible refine gate_dst (N := 13) rfl ?_); refine box_event ?hg (N := 13) ?hd (cs := #[.int .i64 0, .int .i64 0]) (t := 58) ?hr ?_; (case hd => rfl); (case hg => rfl); (case hr => first | (go_simp; done) | (go_simp; rfl)); intro gb141 hg wx3a511 hbox hb; have n0_ := Aside0.mk (Kd.R_below (Kd.R_elderB (by (with_reducible repeat (first | apply Kd.R_alloc | apply Kd.R_drewN | apply Kd.R_drew)); exact HO_10.out) gb141 (Nat.le_of_eq hg.symm)) hb); have n1_ := Aside0.mk (Kd.R_below (Kd.R_elderB (by (with_reducible repeat (first | apply Kd.R_alloc | apply Kd.R_drewN | apply Kd.R_drew)); exact HO_35.out) gb141 (Nat.le_of_eq hg.symm)) hb); have n2_ := Aside0.mk (below_step (by repeat (first | (with_reducible first | exact HB.out | apply below_alloc | apply pw_below_drewN | apply below_drew1) | exact HB.out)) hb); have n3_ := Aside0.mk (hbox); have n4_ := Aside0.mk ((by rw [hg]; exact (below_size (by repeat (first | (with_reducible first | exact HB.out | apply below_alloc | apply pw_below_drewN | apply below_drew1) | exact HB.out))) : w.heap.size ≤ gb141)); have n5_ := Aside0.mk ((by rw [hg]; exact (below_size (by repeat (first | (with_reducible first | exact HB.out | apply below_alloc | apply pw_below_drewN | apply below_drew1) | exact HB.out))) : w.heap.size ≤ gb141)); clear HO_10; clear HO_35; clear HB; have HO_10 := n0_; have HO_35 := n1_; have HB := n2_; have BK141 := n3_; have GW141 := n4_; have GE141 := n5_; clear n0_ n1_ n2_ n3_ n4_ n5_; clear hb hbox hg; have hczx3a511 : wx3a511.cell? ⟨gb141, 0, none⟩ = some (.int .i64 0) := (blk_cell BK141.out 0).trans rfl; have hczx3a512 : wx3a511.cell? ⟨gb141, 1, none⟩ = some (.int .i64 0) := (blk_cell BK141.out 1).trans rfl; have hfzx3a511 := blk_frozen BK141.out 0; have hfzx3a512 := blk_frozen BK141.out 1) | ((with_reducible refine gate_builtin (b := .append) (xs := #[.tmp 48, .tmp 52]) rfl ?_); at_builtin; refine Kd.R_append k58 (w0 := w) w.heap.size rfl (.tmp 48) (.tmp 52) 53 58 (.agg #[(.int .i64 0), (.int .i64 0)]) 16 rfl Try.underlying53 info58 rfl (by decide) (by omega) u10 x10_2 (⟨x11_2, ji15⟩ : S58) [.int .i64 x11_2, .int .i64 ji15] (fun k_ => some k_ ≠ (.slice (some ad140) t136.length cozc1 : Value).ownBlock ∧ k_ ≠ gb141) (fun _ => False) rfl (by first | (go_simp; done) | (go_simp; rfl)) ?aP (fun _ hk => hk.elim) ?aF ?aO ?aB ?aS ?aL ?_; (case aP => exact k58_mkM _ _ _ (⟨x11_2, ji15⟩ : S58)); (case aB => exact (by repeat (first | (with_reducible first | exact HB.out | apply below_alloc | apply pw_below_drewN | apply below_drew1 | refine below_set ?_ GE141.out) | exact HB.out))); (case aF => exact (fun k_ hk => ⟨Kd.fresh' (Kd.R_lt (by (with_reducible repeat (first | apply Kd.R_alloc | apply Kd.R_drewN | apply Kd.R_drew)); exact (Kd.R_mono (Kd.R_far (p := ⟨gb141, 1, none⟩) (Kd.R_far (p := ⟨gb141, 0, none⟩) (Kd.R_mono HO_35.out (fun k_ hk => (⟨hk, hk.2⟩ : _ ∧ k_ ≠ gb141))) (fun _ hk => hk.2) (.int .i64 ((rd_T58 t136 x37_2).f0))) (fun _ hk => hk.2) (.int .i64 ((rd_T58 t136 x37_2).f1))) (fun _ h_ => h_.1)))) k_ hk, Kd.freshB (g := gb141) (o := .cells #[.int .i64 ((rd_T58 t136 x37_2).f0), .int .i64 ((rd_T58 t136 x37_2).f1)] 58 (0, 0)) (by (with_reducible repeat (first | refine blk_drewN ?_ _ | refine blk_drew ?_ | refine blk_alloc ?_ _)); refine blk_put (cs := #[.int .i64 ((rd_T58 t136 x37_2).f0), .int .i64 0]) ?_ 1 _ rfl; (with_reducible repeat (first | refine blk_drewN ?_ _ | refine blk_drew ?_ | refine blk_alloc ?_ _)); refine blk_put (cs := #[.int .i64 0, .int .i64 0]) ?_ 0 _ rfl; (with_reducible repeat (first | refine blk_drewN ?_ _ | refine blk_drew ?_ | refine blk_alloc ?_ _)); exact BK141.out) k_ hk⟩)); (case aO => exact (by (with_reducible repeat (first | apply Kd.R_alloc | apply Kd.R_drewN | apply Kd.R_drew)); exact Kd.R_mono (Kd.R_far (p := ⟨gb141, 1, none⟩) (Kd.R_far (p := ⟨gb141, 0, none⟩) (Kd.R_mono HO_10.out (fun k_ hk => (⟨hk, hk.2⟩ : _ ∧ k_ ≠ gb141))) (fun _ hk => hk.2) (.int .i64 ((rd_T58 t136 x37_2).f0))) (fun _ hk => hk.2) (.int .i64 ((rd_T58 t136 x37_2).f1))) (fun _ hk => ⟨hk.1.1, hk.1.2⟩))); (case aS => exact (below_size (by repeat (first | (with_reducible first | exact HB.out | apply below_alloc | apply pw_below_drewN | apply below_drew1 | refine below_set ?_ GE141.out) | exact HB.out)))); (case aL => have := LMc17.out; omega); intro v143 wx21f01 ho hb hg hat; rw [← Ny142.out] at ho; have n0_ := Aside0.mk (Kd.R_after (ok := (fun k_ => k_ ≠ gb141)) (by (with_reducible repeat (first | apply Kd.R_alloc | apply Kd.R_drewN | apply Kd.R_drew)); exact Kd.R_mono (Kd.R_far (p := ⟨gb141, 1, none⟩) (Kd.R_far (p := ⟨gb141, 0, none⟩) (Kd.R_mono HO_35.out (fun k_ hk => (⟨hk, hk.2⟩ : _ ∧ k_ ≠ gb141))) (fun _ hk => hk.2) (.int .i64 ((rd_T58 t136 x37_2).f0))) (fun _ hk => hk.2) (.int .i64 ((rd_T58 t136 x37_2).f1))) (fun _ hk => ⟨hk.1.2, hk.1.1⟩)) hg hat); have n1_ := Aside0.mk (blk_grown (g := gb141) (o := .cells #[.int .i64 ((rd_T58 t136 x37_2).f0), .int .i64 ((rd_T58 t136 x37_2).f1)] 58 (0, 0)) (by (with_reducible repeat (first | refine blk_drewN ?_ _ | refine blk_drew ?_ | refine blk_alloc ?_ _)); refine blk_put (cs := #[.int .i64 ((rd_T58 t136 x37_2).f0), .int .i64 0]) ?_ 1 _ rfl; (with_reducible repeat (first | refine blk_drewN ?_ _ | refine blk_drew ?_ | refine blk_alloc ?_ _)); refine blk_put (cs := #[.int .i64 0, .int .i64 0]) ?_ 0 _ rfl; (with_reducible repeat (first | refine blk_drewN ?_ _ | refine blk_drew ?_ | refine blk_alloc ?_ _)); exact BK141.out) hg (Kd.R_away HO_10.out (fun _ hk => hk.2))); have n2_ := Aside0.mk (hb); have n3_ := Aside0.mk (ho); clear HO_35; clear BK141; clear HB; clear HO_10; have HO_35 := n0_; have BK141 := n1_; have HB := n2_; have HO144 := n3_; clear n0_ n1_ n2_ n3_; clear ho hb hg hat; have hczx21f01 : wx21f01.cell? ⟨gb141, 0, none⟩ = some (.int .i64 ((rd_T58 t136 x37_2).f0)) := (blk_cell BK141.out 0).trans rfl; have hczx21f02 : wx21f01.cell? ⟨gb141, 1, none⟩ = some (.int .i64 ((rd_T58 t136 x37_2).f1)) := (blk_cell BK141.out 1).trans rfl; have hfzx21f01 := blk_frozen BK141.out 0; have hfzx21f02 := blk_frozen BK141.out 1))
               first
                | clear hm6_0
                  first | go_roundg k2 | (subst hji15; subst hji18; go_roundg k2)
                  case measure => have := HJ5.out; have := HK2.out; omega
                  case rel => exact ⟨(y142), (ji18), (wrap64 (x37_2 + 1)), (by first | rfl | (simp; done) | (simp only [← hji18] <;> (first | rfl | simp)) | (simp [*]; done)), (by first | rfl | (simp; done) | (simp [*]; done)), H', ⟨by have := HJ5.out; have := HK2.out; omega⟩, ⟨by (with_reducible repeat (first | apply Kd.R_alloc | apply Kd.R_drewN | apply Kd.R_drew)); exact Kd.R_mono HO144.out (fun _ hk => hk.1)⟩, ⟨by (with_reducible repeat (first | apply Kd.R_alloc | apply Kd.R_drewN | apply Kd.R_drew)); exact Kd.R_mono HO_35.out (fun _ hk => hk.2)⟩, ⟨by repeat (first | (with_reducible first | exact HB.out | apply below_alloc | apply pw_below_drewN | apply below_drew1 | refine below_set ?_ GE141.out) | exact HB.out)⟩⟩
                | clear hm6_1
                  first | go_roundg k2 | (subst hji15; subst hji23; go_roundg k2)
                  case measure => have := HJ5.out; have := HK2.out; omega
                  case rel => exact ⟨(x10_2), (ji23), (wrap64 (x37_2 + 1)), (by first | rfl | (simp; done) | (simp only [← hji23] <;> (first | rfl | simp)) | (simp [*]; done)), (by first | rfl | (simp; done) | (simp [*]; done)), H', ⟨by have := HJ5.out; have := HK2.out; omega⟩, ⟨by (with_reducible repeat (first | apply Kd.R_alloc | apply Kd.R_drewN | apply Kd.R_drew)); exact Kd.R_mono (Kd.R_far (p := ⟨gb141, 1, none⟩) (Kd.R_far (p := ⟨gb141, 0, none⟩) (Kd.R_mono HO_10.out (fun k_ hk => (⟨hk, hk.2⟩ : _ ∧ k_ ≠ gb141))) (fun _ hk => hk.2) (.int .i64 ((rd_T58 t136 x37_2).f0))) (fun _ hk => hk.2) (.int .i64 ((rd_T58 t136 x37_2).f1))) (fun _ hk => hk.1.1)⟩, ⟨by (with_reducible repeat (first | apply Kd.R_alloc | apply Kd.R_drewN | apply Kd.R_drew)); exact Kd.R_mono (Kd.R_far (p := ⟨gb141, 1, none⟩) (Kd.R_far (p := ⟨gb141, 0, none⟩) (Kd.R_mono HO_35.out (fun k_ hk => (⟨hk, hk.2⟩ : _ ∧ k_ ≠ gb141))) (fun _ hk => hk.2) (.int .i64 ((rd_T58 t136 x37_2).f0))) (fun _ hk => hk.2) (.int .i64 ((rd_T58 t136 x37_2).f1))) (fun _ hk => hk.1.1)⟩, ⟨by repeat (first | (with_reducible first | exact HB.out | apply below_alloc | apply pw_below_drewN | apply below_drew1 | refine below_set ?_ GE141.out) | exact HB.out)⟩⟩
             | clear hm6_2
               go_wp2_with (first | ((with_reducible refine gate_builtin (b := .append) (xs := #[.tmp 62, .tmp 66]) rfl ?_); at_builtin; refine Kd.R_append k58 (w0 := w) w.heap.size rfl (.tmp 62) (.tmp 66) 53 58 (.agg #[(.int .i64 0), (.int .i64 0)]) 16 rfl Try.underlying53 info58 rfl (by decide) (by omega) u10 x10_2 (⟨x11_2, a2⟩ : S58) [.int .i64 x11_2, .int .i64 a2] (fun k_ => some k_ ≠ (.slice Aozc1 t136.length cozc1 : Value).ownBlock) (fun _ => False) rfl rfl ?aP (fun _ hk => hk.elim) ?aF ?aO ?aB ?aS ?aL ?_; (case aP => exact k58_mkM _ _ _ (⟨x11_2, a2⟩ : S58)); (case aB => exact (by repeat (first | (with_reducible first | exact HB.out | apply below_alloc | apply pw_below_drewN | apply below_drew1) | exact HB.out))); (case aF => exact (fun k_ hk => Kd.fresh' (Kd.R_lt (by (with_reducible repeat (first | apply Kd.R_alloc | apply Kd.R_drewN | apply Kd.R_drew)); exact HO_35.out)) k_ hk)); (case aO => exact (by (with_reducible repeat (first | apply Kd.R_alloc | apply Kd.R_drewN | apply Kd.R_drew)); exact HO_10.out)); (case aS => exact (below_size (by repeat (first | (with_reducible first | exact HB.out | apply below_alloc | apply pw_below_drewN | apply below_drew1) | exact HB.out)))); (case aL => have := LMc27.out; omega); intro v146 wx42181 ho hb hg hat; rw [← Ny145.out] at ho; have n0_ := Aside0.mk (Kd.R_after (ok := (fun _ => True)) (by (with_reducible repeat (first | apply Kd.R_alloc | apply Kd.R_drewN | apply Kd.R_drew)); exact Kd.R_mono HO_35.out (fun _ hk => ⟨trivial, hk⟩)) hg hat); have n1_ := Aside0.mk (hb); have n2_ := Aside0.mk (ho); clear HO_35; clear HB; clear HO_10; have HO_35 := n0_; have HB := n1_; have HO147 := n2_; clear n0_ n1_ n2_; clear ho hb hg hat))
               go_ret2
               exact ⟨_, by first | rfl | (simp [errW_none, errW_some] <;> rfl) | (simp [*, errW_none, errW_some] <;> rfl), by (with_reducible repeat (first | apply Kd.R_alloc | apply Kd.R_drewN | apply Kd.R_drew)); exact Kd.R_mono HO147.out (fun _ hk => trivial), by repeat (first | (with_reducible first | exact HB.out | apply below_alloc | apply pw_below_drewN | apply below_drew1) | exact HB.out)⟩
             | clear hm6_3
               go_wp2
               go_ret2
               exact ⟨_, by first | rfl | (simp [errW_none, errW_some] <;> rfl) | (simp [*, errW_none, errW_some] <;> rfl), by (with_reducible repeat (first | apply Kd.R_alloc | apply Kd.R_drewN | apply Kd.R_drew)); exact Kd.R_mono HO_10.out (fun _ hk => trivial), by repeat (first | (with_reducible first | exact HB.out | apply below_alloc | apply pw_below_drewN | apply below_drew1) | exact HB.out)⟩
   | clear hm1_1
     go_wp2_with (first | ((with_reducible refine gate_callee (f := 33) rfl ?_); refine goesL_ (some 17) rfl rfl Try.func33 (by kernel_rfl) rfl #[.slice A0 l0.length c0] rfl (by (try simp only [List.map_toArray, List.map_cons, List.map_nil]); first | done | rfl | (simp only [List.length_drop, List.length_take]; rfl)) ?_; (with_reducible refine (volume_Union.calls k _ _ l0 t136 t137 _ ?side1 ?side2 A4.out).mono ?_); (case side1 => repeat (first | exact HR0.out | (with_reducible refine Kd.C_alloc ?_ _) | (with_reducible refine Kd.C_drewN ?_ _) | (with_reducible refine Kd.C_drew ?_))); (case side2 => exact HC0.out); rintro e wx3de91 ⟨v138, rfl, hox3de91, hb⟩; refine ⟨_, rfl, ?_⟩; have n0_ := Aside0.mk (Kd.R_lower hox3de91 (below_size (by repeat (first | (with_reducible first | exact HB.out | apply below_alloc | apply pw_below_drewN | apply below_drew1) | exact HB.out)))); have n1_ := Aside0.mk (below_step (by repeat (first | (with_reducible first | exact HB.out | apply below_alloc | apply pw_below_drewN | apply below_drew1) | exact HB.out)) hb); clear HB; have HO139 := n0_; have HB := n1_; clear n0_ n1_; (try clear hb); (try clear hb2); (try clear hk); (try clear hi); (try clear hox3de91)))
     go_ret2
     exact ⟨_, by first | rfl | (simp [errW_none, errW_some] <;> rfl) | (simp [*, errW_none, errW_some] <;> rfl), by first | exact Kd.R_nil _ _ _ _ _ | exact Kd.N_nil _ _ _ _ _ | exact Kd.V_nil _ _ _ _ _ | exact Kd.Q_nil _ _ _ _ _ | exact Kd.S_nil _ _ _ _ _, by repeat (first | (with_reducible first | exact HB.out | apply below_alloc | apply pw_below_drewN | apply below_drew1) | exact HB.out)⟩

/-! ### api_Span_82: function 82 -/
/-- Where a predicate holds first. -/
def api_Span_82.f (l0 : List (S58)) (p : (S58) → Bool) : Option Int := some (IdxF.idx p l0)
set_option maxHeartbeats 8000000 in
set_option maxRecDepth 100000 in
theorem api_Span_82.calls (A0 : Option Addr) (c0 : Nat) (l0 : List (S58)) (p : (S58) → Bool) {F : Value} (r : Int) (w : World) (hr0 : Kd.C k58 w A0 l0.length l0) (hc0 : l0.length ≤ c0) (hp : IdxF.Pred Try.prog k58 true F p w) (h : api_Span_82.f l0 p = some r) :
    Calls Try.prog 82 #[.slice A0 l0.length c0, F] w fun e w' => e = .returned (.int .i64 r) ∧ Below w.heap.size w w' := by
  obtain ⟨g, lb, rfl, eg, hp⟩ := hp
  obtain rfl := Option.some.inj h
  clear h
  have hbig := hr0.2.1
  go_enter Try.func82, Try.ntmps82
  go_wp2
  go_loopg [5, 8] l0.length (fun gg _ s8 wr => ∃ kk : Nat, kk ≤ l0.length ∧ l0.length - kk ≤ gg ∧ s8 = .int .i64 kk ∧ Aside0 (Below w.heap.size w wr) ∧ Aside0 (∀ j (h : j < l0.length), j < kk → p l0[j] = false))
  case atStart => exact ⟨0, Nat.zero_le _, by omega, rfl, ⟨Below.refl _ w⟩, ⟨fun j _ hj => absurd hj (Nat.not_lt_zero _)⟩⟩
  case round =>
    obtain ⟨kk, hkk, hg, rfl, BW, AJ⟩ := hrel
    by_cases hlt : kk < l0.length
    · have hltz : (kk : Int) < (l0.length : Int) := by omega
      obtain ⟨ad, cs, rfl, hlen, hK, hcell⟩ := Kd.C_get (Kd.C_below hr0 BW.out) z58 (kk : Int) (by omega) hltz
      have hx : l0.getD (kk : Int).toNat z58 = l0[kk] := by rw [Int.toNat_natCast, List.getD_eq_getElem?_getD, List.getElem?_eq_getElem hlt]; rfl
      rw [hx] at hK
      obtain ⟨v0_, v1_, rfl⟩ := IdxF.len2 hlen
      have hx0_ : wr.cell? (ad.add (kk * 2)) = some v0_ := by first | exact hcell 0 v0_ rfl | simpa using hcell 0 v0_ rfl
      have hx1_ : wr.cell? ⟨(ad.add (kk * 2)).block, (ad.add (kk * 2)).off + 1, none⟩ = some v1_ := by rw [← add_field _ _ 1 (by omega)]; exact hcell 1 _ rfl
      have hcall : Calls Try.prog g (#[.agg #[v0_, v1_]] ++ lb) wr fun e w' => e = .returned (.bool (p l0[kk])) ∧ Below wr.heap.size wr w' := hp wr l0[kk] _ BW.out hK
      clear hcell hx hp hK hlen
      cases hq : p l0[kk] with
      | true =>
        rw [hq] at hcall
        go_wp2_with (go_at_fn g; refine hcall.mono ?_; rintro e w' ⟨rfl, hb'⟩)
        go_ret
        refine ⟨?_, below_step BW.out hb'⟩
        rw [IdxF.idx_hit p l0 hlt hq (fun j h => AJ.out j _ h)]
        rfl
      | false =>
        rw [hq] at hcall
        go_wp2_with (go_at_fn g; refine hcall.mono ?_; rintro e w' ⟨rfl, hb'⟩)
        go_roundg (l0.length - (kk + 1))
        case measure => omega
        case rel =>
          refine ⟨kk + 1, by omega, by omega, by go_num, ⟨below_step BW.out hb'⟩, ⟨fun j h hj => ?_⟩⟩
          by_cases e : j = kk
          · subst e
            exact hq
          · exact AJ.out j h (by omega)
    · have hltz : ¬ (kk : Int) < (l0.length : Int) := by omega
      go_wp2
      go_ret
      refine ⟨?_, BW.out⟩
      rw [IdxF.idx_miss p l0 (fun j h => AJ.out j h (by omega))]
      rfl

/-! ### api_Span_63: function 63 -/
/-- Whether a predicate holds somewhere. -/
def api_Span_63.f (l0 : List (S58)) (p : (S58) → Bool) : Option Bool := some (l0.any p)
set_option maxHeartbeats 8000000 in
set_option maxRecDepth 100000 in
theorem api_Span_63.calls (A0 : Option Addr) (c0 : Nat) (l0 : List (S58)) (p : (S58) → Bool) {F : Value} (r : Bool) (w : World) (hr0 : Kd.C k58 w A0 l0.length l0) (hc0 : l0.length ≤ c0) (hp : IdxF.Pred Try.prog k58 true F p w) (h : api_Span_63.f l0 p = some r) :
    Calls Try.prog 63 #[.slice A0 l0.length c0, F] w fun e w' => e = .returned (.bool r) ∧ Below w.heap.size w w' := by
  obtain rfl := Option.some.inj h
  clear h
  rw [← IdxF.idx_any]
  have hi := api_Span_82.calls A0 c0 l0 p (IdxF.idx p l0) w hr0 hc0 hp rfl
  obtain ⟨g, lb, rfl, eg, hp⟩ := hp
  have e6 : ∀ args w, (callFunc 82 args).run Try.prog w = .ok (.enter 82 args) w := enters_of Try.func82 (by kernel_rfl) rfl
  go_enter Try.func63, Try.ntmps63
  go_wp2_with (go_at_call 82; refine hi.mono ?_; rintro e w' ⟨rfl, hb'⟩)
  go_ret
  exact ⟨rfl, hb'⟩

/-! ### volume_During_1: function 64 -/
/-- Whether a time is in an interval. -/
def volume_During_1.p (t : Int) (x : S58) : Bool := decide (t ≥ x.f0) && decide (t < x.f1)
set_option maxHeartbeats 8000000 in
set_option maxRecDepth 100000 in
theorem volume_During_1.pred {t : Int} {b ty : Nat} {w : World} (hb : w.heap[b]? = some (.cells #[.int .i64 t] ty (0, 0))) : IdxF.Pred Try.prog k58 true (.func (.func 64) #[] #[.pointer (some ⟨b, 0, none⟩)]) (volume_During_1.p t) w := by
  refine ⟨64, _, rfl, enters_of Try.func64 (by kernel_rfl) rfl, fun W x cs hW hK => ?_⟩
  obtain rfl := k58_open hK
  have hbW := blk_below hb hW
  have hc : W.cell? ⟨b, 0, none⟩ = some (.int .i64 t) := (blk_cell hbW 0).trans rfl
  have hlt := blk_lt hbW
  clear hb hbW hW hK
  unfold volume_During_1.p
  generalize x.f0 = x0
  generalize x.f1 = x1
  change Calls Try.prog 64 #[.agg #[.int .i64 x0, .int .i64 x1], .pointer (some ⟨b, 0, none⟩)] W _
  by_cases c1 : t ≥ x0 <;> by_cases c2 : t < x1
  all_goals
    go_enter Try.func64, Try.ntmps64
    go_wp2
    go_ret
    exact ⟨by simp [c1, c2], below_alloc (Below.refl _ _) _⟩

/-! ### volume_During: function 34 -/
def volume_During.f (k : Nat) (l0 : List (S58)) (a1 : Int) : Option (Bool × Int) := (volume_CheckSpans.f k l0).bind fun t149 => (if t149 = 0 then ((api_Span_63.f l0 (volume_During_1.p a1)).bind fun t150 => (some (t150, 0))) else (some (false, t149)))
theorem volume_During.mono : ∀ a0 a1 k, LeO (volume_During.f k a0 a1) (volume_During.f (k + 1) a0 a1) := by
  intro a0 a1 k
  unfold volume_During.f
  repeat' first
      | (with_reducible exact volume_CheckSpans.mono _ _)
      | (with_reducible exact LeO.refl _)
      | (with_reducible exact LeO.none _)
      | (with_reducible refine LeO.ite ?_ ?_)
      | (with_reducible refine LeO.bind ?_ (fun _ => ?_))
      | exact volume_CheckSpans.mono _ _
      | exact LeO.none _
      | refine LeO.ite ?_ ?_
      | refine LeO.bind ?_ (fun _ => ?_)
set_option maxHeartbeats 8000000 in
set_option maxRecDepth 100000 in
theorem volume_During.calls (k : Nat) (A0 : Option Addr) (c0 : Nat) (l0 : List (S58)) (a1 : Int) (r1 : Bool) (r2 : Int) (w : World) (hr0 : Kd.C k58 w A0 l0.length l0) (hc0 : l0.length ≤ c0) (h : volume_During.f k l0 a1 = some (r1, r2)) :
    Calls Try.prog 34 #[.slice A0 l0.length c0, .int .i64 a1] w fun e w' => e = .returned (.tuple #[.bool r1, .int .i64 r2]) ∧ Below w.heap.size w w' := by
 have HR0 := Aside0.mk hr0
 have HC0 := Aside0.mk hc0
 clear hr0 hc0
 have HB := Aside0.mk (Below.refl w.heap.size w)
 have H : ((volume_CheckSpans.f k l0).bind fun t149 => (if t149 = 0 then ((api_Span_63.f l0 (volume_During_1.p a1)).bind fun t150 => (some (t150, 0))) else (some (false, t149)))) = some (r1, r2) := h
 clear h
 replace H := Option.bind_eq_some_iff.mp H
 obtain ⟨t149, A30, H⟩ := H
 replace H : (if t149 = 0 then ((api_Span_63.f l0 (volume_During_1.p a1)).bind fun t150 => (some (t150, 0))) else (some (false, t149))) = some (r1, r2) := H
 have A3 := Aside0.mk A30
 clear A30
 refine Or.elim (Classical.em (t149 = 0)) (fun c4 => ?p2_) (fun c4 => ?n2_)
 case' p2_ =>
  rw [if_pos c4] at H
  have c4b0 : (t149 == 0) = true := beq_iff_eq.mpr c4
  have c4b1 : (t149 != 0) = false := bne_eq_false_iff_eq.mpr c4
  clear c4
  replace H := Option.bind_eq_some_iff.mp H
  obtain ⟨t150, A50, H⟩ := H
  replace H : (some (t150, 0)) = some (r1, r2) := H
  have A5 := Aside0.mk A50
  clear A50
  simp only [Option.some.injEq, Prod.mk.injEq] at H
  obtain ⟨rfl, rfl⟩ := H
 case' n2_ =>
  rw [if_neg c4] at H
  have c4b0 : (t149 == 0) = false := beq_eq_false_iff_ne.mpr c4
  have c4b1 : (t149 != 0) = true := bne_iff_ne.mpr c4
  simp only [Option.some.injEq, Prod.mk.injEq] at H
  obtain ⟨rfl, rfl⟩ := H
 all_goals
  go_enter Try.func34, Try.ntmps34
  go_wp2_with (first | ((with_reducible refine gate_dst (N := 3) rfl ?_); refine box_event ?hg (N := 3) ?hd (cs := #[.int .i64 a1]) (t := 3) ?hr ?_; (case hd => rfl); (case hg => rfl); (case hr => first | (go_simp; done) | (go_simp; rfl)); intro gb148 hg wx91521 hbox hb; have n0_ := Aside0.mk (below_step (by repeat (first | (with_reducible first | exact HB.out | apply below_alloc | apply pw_below_drewN | apply below_drew1) | exact HB.out)) hb); have n1_ := Aside0.mk (hbox); have n2_ := Aside0.mk ((by rw [hg]; exact (below_size (by repeat (first | (with_reducible first | exact HB.out | apply below_alloc | apply pw_below_drewN | apply below_drew1) | exact HB.out))) : w.heap.size ≤ gb148)); have n3_ := Aside0.mk ((by rw [hg]; exact (below_size (by repeat (first | (with_reducible first | exact HB.out | apply below_alloc | apply pw_below_drewN | apply below_drew1) | exact HB.out))) : w.heap.size ≤ gb148)); clear HB; have HB := n0_; have BK148 := n1_; have GW148 := n2_; have GE148 := n3_; clear n0_ n1_ n2_ n3_; clear hb hbox hg) | ((with_reducible refine gate_callee (f := 59) rfl ?_); refine goesL_ (some 8) rfl rfl Try.func59 (by kernel_rfl) rfl #[.slice A0 l0.length c0] rfl (by (try simp only [List.map_toArray, List.map_cons, List.map_nil]); first | done | rfl | (simp only [List.length_drop, List.length_take]; rfl)) ?_; (with_reducible refine (volume_CheckSpans.calls k _ _ l0 t149 _ ?side1 ?side2 A3.out).mono ?_); (case side1 => repeat (first | exact (Kd.C_below HR0.out HB.out) | (with_reducible refine Kd.C_alloc ?_ _) | (with_reducible refine Kd.C_drewN ?_ _) | (with_reducible refine Kd.C_drew ?_))); (case side2 => exact HC0.out); rintro e wx47aa1 ⟨rfl, hb⟩; refine ⟨_, rfl, ?_⟩; have n0_ := Aside0.mk (blk_below (g := gb148) (o := .cells #[.int .i64 a1] 3 (0, 0)) (by (with_reducible repeat (first | refine blk_drewN ?_ _ | refine blk_drew ?_ | refine blk_alloc ?_ _)); exact BK148.out) hb); have n1_ := Aside0.mk (below_step (by repeat (first | (with_reducible first | exact HB.out | apply below_alloc | apply pw_below_drewN | apply below_drew1 | refine below_set ?_ GE148.out) | exact HB.out)) hb); clear BK148; clear HB; have BK148 := n0_; have HB := n1_; clear n0_ n1_; (try clear hb); (try clear hb2); (try clear hk); (try clear hi)) | ((with_reducible refine gate_callee (f := 63) rfl ?_); refine goesL_ (some 14) rfl rfl Try.func63 (by kernel_rfl) rfl #[.slice A0 l0.length c0, .func (.func 64) #[] #[.pointer (some ⟨gb148, 0, none⟩)]] rfl (by (try simp only [List.map_toArray, List.map_cons, List.map_nil]); first | done | rfl | (simp only [List.length_drop, List.length_take]; rfl)) ?_; (with_reducible refine (api_Span_63.calls _ _ l0 (volume_During_1.p a1) t150 _ ?side1 ?side2 ?side3 A5.out).mono ?_); (case side1 => repeat (first | exact (Kd.C_below HR0.out HB.out) | (with_reducible refine Kd.C_alloc ?_ _) | (with_reducible refine Kd.C_drewN ?_ _) | (with_reducible refine Kd.C_drew ?_))); (case side2 => exact HC0.out); (case side3 => exact volume_During_1.pred (by (with_reducible repeat (first | refine blk_drewN ?_ _ | refine blk_drew ?_ | refine blk_alloc ?_ _)); exact BK148.out)); rintro e wx69e41 ⟨rfl, hb⟩; refine ⟨_, rfl, ?_⟩; have n0_ := Aside0.mk (blk_below (g := gb148) (o := .cells #[.int .i64 a1] 3 (0, 0)) (by (with_reducible repeat (first | refine blk_drewN ?_ _ | refine blk_drew ?_ | refine blk_alloc ?_ _)); exact BK148.out) hb); have n1_ := Aside0.mk (below_step (by repeat (first | (with_reducible first | exact HB.out | apply below_alloc | apply pw_below_drewN | apply below_drew1 | refine below_set ?_ GE148.out) | exact HB.out)) hb); clear BK148; clear HB; have BK148 := n0_; have HB := n1_; clear n0_ n1_; (try clear hb); (try clear hb2); (try clear hk); (try clear hi)))
  go_ret2
  exact ⟨by first | rfl | (simp [errW_none, errW_some] <;> rfl) | (simp [*, errW_none, errW_some] <;> rfl), by repeat (first | (with_reducible first | exact HB.out | apply below_alloc | apply pw_below_drewN | apply below_drew1 | refine below_set ?_ GE148.out) | exact HB.out)⟩

end Go.Proofs.Yteaddpieonkboaa.PVolumeUnion
