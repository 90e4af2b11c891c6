/- Made by a program of this session (wip/tools/myprint.py, over the kit's printer): that the Go functions answer as the Lean functions printed beside them. -/
import Derived.Test.YtbpbpojnfhhbjaaPTubeAllx0
namespace Go.Proofs.Ytbpbpojnfhhbjaa.PTubeAll
open Go.RowKit Go.Proofs.YtbpbpojnfhhbjaaW.PrintWords Go.Proofs.YtbpbpojnfhhbjaaW.PrintLast Go.Proofs.YtbpbpojnfhhbjaaW.PrintMore
attribute [local go_sem] max2_int min2_int max_two min_two max_three min_three max_four min_four   -- for this text's walks alone
set_option linter.unusedVariables false
set_option linter.unusedSimpArgs false

/-! ### skywaykeep1_long: function 36 -/
def skywaykeep1_long.l0 : Nat → List (List (S88)) → Int → Int → Option (Bool)
  | 0, _, _, _ => none
  | k + 1, x5, x6, x7 => if x7 < x6 then (if 0 ≤ x7 then (if x7 < (x5.length : Int) then (if ((rd_L4 x5 x7).length : Int) > 12 then (some true) else (if ((rd_L4 x5 x7).length : Int) > 0 then (if 0 ≤ (wrap64 (((rd_L4 x5 x7).length : Int) - 1)) then (if (wrap64 (((rd_L4 x5 x7).length : Int) - 1)) < ((rd_L4 x5 x7).length : Int) then (if 0 < ((rd_L4 x5 x7).length : Int) then (if (wrap64 (((rd_T88 (rd_L4 x5 x7) (wrap64 (((rd_L4 x5 x7).length : Int) - 1))).f0.f0) - ((rd_T88 (rd_L4 x5 x7) 0).f0.f0))) > 1500 then (some true) else (skywaykeep1_long.l0 k x5 x6 (wrap64 (x7 + 1)))) else (none)) else (none)) else (none)) else (skywaykeep1_long.l0 k x5 x6 (wrap64 (x7 + 1))))) else (none)) else (none)) else (some false)
def skywaykeep1_long.f (k : Nat) (l0 : List (List (S88))) : Option (Bool) := skywaykeep1_long.l0 k l0 (l0.length : Int) 0
theorem skywaykeep1_long.mono_l : ∀ k, (∀ y0 y1 y2, LeO (skywaykeep1_long.l0 k y0 y1 y2) (skywaykeep1_long.l0 (k + 1) y0 y1 y2))
  | 0 => fun _ _ _ r h => by simp [skywaykeep1_long.l0] at h
  | k + 1 => by
    have ih0 := skywaykeep1_long.mono_l k
    · intro y0 y1 y2
      unfold skywaykeep1_long.l0
      repeat' first
      | (with_reducible exact ih0 _ _ _)
      | (with_reducible exact LeO.refl _)
      | (with_reducible exact LeO.none _)
      | (with_reducible refine LeO.ite ?_ ?_)
      | (with_reducible refine LeO.bind ?_ (fun _ => ?_))
      | exact ih0 _ _ _
      | exact LeO.none _
      | refine LeO.ite ?_ ?_
      | refine LeO.bind ?_ (fun _ => ?_)
theorem skywaykeep1_long.mono : ∀ a0 k, LeO (skywaykeep1_long.f k a0) (skywaykeep1_long.f (k + 1) a0) := by
  intro a0 k
  have ih0 := skywaykeep1_long.mono_l k
  unfold skywaykeep1_long.f
  repeat' first
      | (with_reducible exact ih0 _ _ _)
      | (with_reducible exact LeO.refl _)
      | (with_reducible exact LeO.none _)
      | (with_reducible refine LeO.ite ?_ ?_)
      | (with_reducible refine LeO.bind ?_ (fun _ => ?_))
      | exact ih0 _ _ _
      | exact LeO.none _
      | refine LeO.ite ?_ ?_
      | refine LeO.bind ?_ (fun _ => ?_)
set_option maxHeartbeats 8000000 in
set_option maxRecDepth 100000 in
theorem skywaykeep1_long.calls (k : Nat) (A0 : Option Addr) (c0 : Nat) (l0 : List (List (S88))) (r : Bool) (w : World) (hr0 : Kd.C (Kd.slice 88 k88) w A0 l0.length l0) (hc0 : l0.length ≤ c0) (h : skywaykeep1_long.f k l0 = some r) :
    Calls Try.prog 36 #[.slice A0 l0.length c0] w fun e w' => e = .returned (.bool r) ∧ Below w.heap.size w w' := by
 have HR0 := Aside0.mk hr0
 have HC0 := Aside0.mk hc0
 clear hr0 hc0
 have HB := Aside0.mk (Below.refl w.heap.size w)
 have H : (skywaykeep1_long.l0 k l0 (l0.length : Int) 0) = some r := h
 clear h
 have H' := Aside0.mk H
 clear H
 go_enter Try.func36, Try.ntmps36
 go_wp2
 repeat (go_quiet (fail); try go_wp2)
 go_loopg [7] k (fun kq v7 w' => ∃ (x7_1 : Int), v7 = .int .i64 x7_1 ∧ Aside0 (skywaykeep1_long.l0 kq l0 (l0.length : Int) x7_1 = some r) ∧ Aside0 (kq ≤ k) ∧ Aside0 (Below w.heap.size w w'))
 case atStart => exact ⟨(0), (by first | rfl | (simp; done) | (simp [*]; done)), H', ⟨Nat.le_refl _⟩, ⟨by repeat (first | (with_reducible first | exact HB.out | apply below_alloc | apply pw_below_drewN | apply below_drew1) | exact HB.out)⟩⟩
 case round =>
  clear H'
  (try clear p1)
  obtain ⟨x7_1, rfl, HA, HK1, HB⟩ := hrel
  cases gk with
  | zero => exact absurd HA.out (by simp [skywaykeep1_long.l0])
  | succ k1 =>
   have H := HA.out
   clear HA
   simp only [skywaykeep1_long.l0] at H
   refine Or.elim (Classical.em (x7_1 < (l0.length : Int))) (fun c2 => ?p2_) (fun c2 => ?n2_)
   case' p2_ =>
    rw [if_pos c2] at H
    have c2b0 : decide (x7_1 < (l0.length : Int)) = true := decide_eq_true c2
    clear c2
    refine Or.elim (Classical.em (0 ≤ x7_1)) (fun c3 => ?p3_) (fun c3 => ?n3_)
    case' p3_ =>
     rw [if_pos c3] at H
     have c3b0 : decide (0 ≤ x7_1) = true := decide_eq_true c3
     clear c3
     refine Or.elim (Classical.em (x7_1 < (l0.length : Int))) (fun c4 => ?p4_) (fun c4 => ?n4_)
     case' p4_ =>
      rw [if_pos c4] at H
      have c4b0 : decide (x7_1 < (l0.length : Int)) = true := decide_eq_true c4
      clear c4
      refine Or.elim (Classical.em (((rd_L4 l0 x7_1).length : Int) > 12)) (fun c5 => ?p5_) (fun c5 => ?n5_)
      case' p5_ =>
       rw [if_pos c5] at H
       have c5b0 : decide (12 < ((rd_L4 l0 x7_1).length : Int)) = true := decide_eq_true c5
       have c5b1 : decide (12 < (rd_L4 l0 x7_1).length) = true := decide_eq_true (by omega)
       clear c5
       have hm1_0 := Aside0.mk trivial
      case' n5_ =>
       rw [if_neg c5] at H
       have c5b0 : decide (12 < ((rd_L4 l0 x7_1).length : Int)) = false := decide_eq_false c5
       have c5b1 : decide (12 < (rd_L4 l0 x7_1).length) = false := decide_eq_false (by omega)
       clear c5
       refine Or.elim (Classical.em (((rd_L4 l0 x7_1).length : Int) > 0)) (fun c6 => ?p6_) (fun c6 => ?n6_)
       case' p6_ =>
        rw [if_pos c6] at H
        have c6b0 : decide (0 < ((rd_L4 l0 x7_1).length : Int)) = true := decide_eq_true c6
        have c6b1 : decide (0 < (rd_L4 l0 x7_1).length) = true := decide_eq_true (by omega)
        clear c6
        obtain ⟨ji7, hji7⟩ : ∃ j_ : Int, (wrap64 (((rd_L4 l0 x7_1).length : Int) - 1)) = j_ := ⟨_, rfl⟩
        replace H : (if 0 ≤ (ji7) then (if (ji7) < ((rd_L4 l0 x7_1).length : Int) then (if 0 < ((rd_L4 l0 x7_1).length : Int) then (if (wrap64 (((rd_T88 (rd_L4 l0 x7_1) (ji7)).f0.f0) - ((rd_T88 (rd_L4 l0 x7_1) 0).f0.f0))) > 1500 then (some true) else (skywaykeep1_long.l0 k1 l0 (l0.length : Int) (wrap64 (x7_1 + 1)))) else (none)) else (none)) else (none)) = some r := by first | (rw [hji7] at H; exact H) | (simp only [hji7] at H ⊢; exact H)
        have hji7w : (IntKind.i64.wrap (((rd_L4 l0 x7_1).length : Int) - 1)) = ji7 := (i64_w _).trans hji7
        refine Or.elim (Classical.em (0 ≤ (ji7))) (fun c8 => ?p7_) (fun c8 => ?n7_)
        case' p7_ =>
         rw [if_pos c8] at H
         have c8b0 : decide (0 ≤ (ji7)) = true := decide_eq_true c8
         clear c8
         refine Or.elim (Classical.em ((ji7) < ((rd_L4 l0 x7_1).length : Int))) (fun c9 => ?p8_) (fun c9 => ?n8_)
         case' p8_ =>
          rw [if_pos c9] at H
          have c9b0 : decide ((ji7) < ((rd_L4 l0 x7_1).length : Int)) = true := decide_eq_true c9
          clear c9
          refine Or.elim (Classical.em (0 < ((rd_L4 l0 x7_1).length : Int))) (fun c10 => ?p9_) (fun c10 => ?n9_)
          case' p9_ =>
           rw [if_pos c10] at H
           have c10b0 : decide (0 < ((rd_L4 l0 x7_1).length : Int)) = true := decide_eq_true c10
           have c10b1 : decide (0 < (rd_L4 l0 x7_1).length) = true := decide_eq_true (by omega)
           clear c10
           refine Or.elim (Classical.em ((wrap64 (((rd_T88 (rd_L4 l0 x7_1) (ji7)).f0.f0) - ((rd_T88 (rd_L4 l0 x7_1) 0).f0.f0))) > 1500)) (fun c11 => ?p10_) (fun c11 => ?n10_)
           case' p10_ =>
            rw [if_pos c11] at H
            have c11b0 : decide (1500 < (wrap64 (((rd_T88 (rd_L4 l0 x7_1) (ji7)).f0.f0) - ((rd_T88 (rd_L4 l0 x7_1) 0).f0.f0)))) = true := decide_eq_true c11
            clear c11
            have hm1_1 := Aside0.mk trivial
           case' n10_ =>
            rw [if_neg c11] at H
            have c11b0 : decide (1500 < (wrap64 (((rd_T88 (rd_L4 l0 x7_1) (ji7)).f0.f0) - ((rd_T88 (rd_L4 l0 x7_1) 0).f0.f0)))) = false := decide_eq_false c11
            clear c11
            have hm1_2 := Aside0.mk trivial
          case' n9_ =>
           rw [if_neg c10] at H
           exact absurd H (by simp)
         case' n8_ =>
          rw [if_neg c9] at H
          exact absurd H (by simp)
        case' n7_ =>
         rw [if_neg c8] at H
         exact absurd H (by simp)
       case' n6_ =>
        rw [if_neg c6] at H
        have c6b0 : decide (0 < ((rd_L4 l0 x7_1).length : Int)) = false := decide_eq_false c6
        have c6b1 : decide (0 < (rd_L4 l0 x7_1).length) = false := decide_eq_false (by omega)
        clear c6
        have hm1_3 := Aside0.mk trivial
     case' n4_ =>
      rw [if_neg c4] at H
      exact absurd H (by simp)
    case' n3_ =>
     rw [if_neg c3] at H
     exact absurd H (by simp)
   case' n2_ =>
    rw [if_neg c2] at H
    have c2b0 : decide (x7_1 < (l0.length : Int)) = false := decide_eq_false c2
    clear c2
    have hm1_4 := Aside0.mk trivial
   all_goals
    first
     | (first | (have _hm := hm1_0) | (have _hm := hm1_1) | (have _hm := hm1_4))
       obtain rfl := Option.some.inj H
       first
        | (first | (have _hm := hm1_0) | (have _hm := hm1_1))
          have p203 : 0 ≤ (x7_1 : Int) := of_decide_eq_true (by first | (with_reducible assumption) | assumption)
          have q203 : x7_1 < (l0.length : Int) := of_decide_eq_true (by first | (with_reducible assumption) | assumption)
          obtain ⟨ad203, A203_0, c203_0, e203, hx203_0, hl203_0, hi203_0⟩ := at_L4 HR0.out x7_1 p203 q203
          cases e203
          replace hx203_0 := (HB.out.cell (World.block_lt_of_cell? w _ hx203_0)).trans hx203_0
          have HR203_0 := Aside0.mk hi203_0
          have HC203_0 := Aside0.mk hl203_0
          clear hi203_0 hl203_0
          replace p203 := eq_true p203
          replace q203 := eq_true q203
          first
           | clear hm1_0
             go_wp2
             repeat (go_quiet (fail); try go_wp2)
             go_ret
             exact ⟨by first | rfl | (simp [errW_none, errW_some] <;> rfl) | (simp [*, errW_none, errW_some] <;> rfl), by repeat (first | (with_reducible first | exact HB.out | apply below_alloc | apply pw_below_drewN | apply below_drew1) | exact HB.out)⟩
           | clear hm1_1
             have p204 : 0 ≤ ((ji7) : Int) := of_decide_eq_true (by first | (with_reducible assumption) | assumption)
             have q204 : (ji7) < ((rd_L4 l0 x7_1).length : Int) := of_decide_eq_true (by first | (with_reducible assumption) | assumption)
             obtain ⟨ad204, e204, hx204_0, hx204_1, hx204_2, hx204_3, hx204_4, hx204_5⟩ := at_T88 HR203_0.out (ji7) p204 q204
             cases e204
             replace hx204_0 := (HB.out.cell (World.block_lt_of_cell? w _ hx204_0)).trans hx204_0
             replace hx204_1 := (HB.out.cell (World.block_lt_of_cell? w _ hx204_1)).trans hx204_1
             replace hx204_2 := (HB.out.cell (World.block_lt_of_cell? w _ hx204_2)).trans hx204_2
             replace hx204_3 := (HB.out.cell (World.block_lt_of_cell? w _ hx204_3)).trans hx204_3
             replace hx204_4 := (HB.out.cell (World.block_lt_of_cell? w _ hx204_4)).trans hx204_4
             replace hx204_5 := (HB.out.cell (World.block_lt_of_cell? w _ hx204_5)).trans hx204_5
             replace p204 := eq_true p204
             replace q204 := eq_true q204
             have p205 : 0 ≤ (0 : Int) := (by omega)
             have q205 : 0 < ((rd_L4 l0 x7_1).length : Int) := of_decide_eq_true (by first | (with_reducible assumption) | assumption)
             obtain ⟨ad205, e205, hx205_0, hx205_1, hx205_2, hx205_3, hx205_4, hx205_5⟩ := at_T88 HR203_0.out 0 p205 q205
             obtain rfl : ad204 = ad205 := (by injection e205)
             have qi205 : (0 < (rd_L4 l0 x7_1).length) = True := eq_true (by omega)
             (try rw [show ((0 : Int)).toNat = 0 from rfl] at hx205_0)
             (try rw [show 0 * 6 = 0 from rfl] at hx205_0)
             (try rw [Addr.add_zero'] at hx205_0)
             (try rw [show ((0 : Int)).toNat = 0 from rfl] at hx205_1)
             (try rw [show 0 * 6 = 0 from rfl] at hx205_1)
             (try rw [Addr.add_zero'] at hx205_1)
             (try rw [show ((0 : Int)).toNat = 0 from rfl] at hx205_2)
             (try rw [show 0 * 6 = 0 from rfl] at hx205_2)
             (try rw [Addr.add_zero'] at hx205_2)
             (try rw [show ((0 : Int)).toNat = 0 from rfl] at hx205_3)
             (try rw [show 0 * 6 = 0 from rfl] at hx205_3)
             (try rw [Addr.add_zero'] at hx205_3)
             (try rw [show ((0 : Int)).toNat = 0 from rfl] at hx205_4)
             (try rw [show 0 * 6 = 0 from rfl] at hx205_4)
             (try rw [Addr.add_zero'] at hx205_4)
             (try rw [show ((0 : Int)).toNat = 0 from rfl] at hx205_5)
             (try rw [show 0 * 6 = 0 from rfl] at hx205_5)
             (try rw [Addr.add_zero'] at hx205_5)
             replace hx205_0 := (HB.out.cell (World.block_lt_of_cell? w _ hx205_0)).trans hx205_0
             replace hx205_1 := (HB.out.cell (World.block_lt_of_cell? w _ hx205_1)).trans hx205_1
             replace hx205_2 := (HB.out.cell (World.block_lt_of_cell? w _ hx205_2)).trans hx205_2
             replace hx205_3 := (HB.out.cell (World.block_lt_of_cell? w _ hx205_3)).trans hx205_3
             replace hx205_4 := (HB.out.cell (World.block_lt_of_cell? w _ hx205_4)).trans hx205_4
             replace hx205_5 := (HB.out.cell (World.block_lt_of_cell? w _ hx205_5)).trans hx205_5
             replace p205 := eq_true p205
             replace q205 := eq_true q205
             go_wp2
             repeat (go_quiet (fail); try go_wp2)
             go_ret
             exact ⟨by first | rfl | (simp [errW_none, errW_some] <;> rfl) | (simp only [← hji7]; first | rfl | (simp [errW_none, errW_some] <;> rfl)) | (simp [*, errW_none, errW_some] <;> rfl), by repeat (first | (with_reducible first | exact HB.out | apply below_alloc | apply pw_below_drewN | apply below_drew1) | exact HB.out)⟩
        | clear hm1_4
          go_wp2
          repeat (go_quiet (fail); try go_wp2)
          go_ret
          exact ⟨by first | rfl | (simp [errW_none, errW_some] <;> rfl) | (simp [*, errW_none, errW_some] <;> rfl), by repeat (first | (with_reducible first | exact HB.out | apply below_alloc | apply pw_below_drewN | apply below_drew1) | exact HB.out)⟩
     | (first | (have _hm := hm1_2) | (have _hm := hm1_3))
       have H' := Aside0.mk H
       clear H
       have p203 : 0 ≤ (x7_1 : Int) := of_decide_eq_true (by first | (with_reducible assumption) | assumption)
       have q203 : x7_1 < (l0.length : Int) := of_decide_eq_true (by first | (with_reducible assumption) | assumption)
       obtain ⟨ad203, A203_0, c203_0, e203, hx203_0, hl203_0, hi203_0⟩ := at_L4 HR0.out x7_1 p203 q203
       cases e203
       replace hx203_0 := (HB.out.cell (World.block_lt_of_cell? w _ hx203_0)).trans hx203_0
       have HR203_0 := Aside0.mk hi203_0
       have HC203_0 := Aside0.mk hl203_0
       clear hi203_0 hl203_0
       replace p203 := eq_true p203
       replace q203 := eq_true q203
       first
        | clear hm1_2
          have p204 : 0 ≤ ((ji7) : Int) := of_decide_eq_true (by first | (with_reducible assumption) | assumption)
          have q204 : (ji7) < ((rd_L4 l0 x7_1).length : Int) := of_decide_eq_true (by first | (with_reducible assumption) | assumption)
          obtain ⟨ad204, e204, hx204_0, hx204_1, hx204_2, hx204_3, hx204_4, hx204_5⟩ := at_T88 HR203_0.out (ji7) p204 q204
          cases e204
          replace hx204_0 := (HB.out.cell (World.block_lt_of_cell? w _ hx204_0)).trans hx204_0
          replace hx204_1 := (HB.out.cell (World.block_lt_of_cell? w _ hx204_1)).trans hx204_1
          replace hx204_2 := (HB.out.cell (World.block_lt_of_cell? w _ hx204_2)).trans hx204_2
          replace hx204_3 := (HB.out.cell (World.block_lt_of_cell? w _ hx204_3)).trans hx204_3
          replace hx204_4 := (HB.out.cell (World.block_lt_of_cell? w _ hx204_4)).trans hx204_4
          replace hx204_5 := (HB.out.cell (World.block_lt_of_cell? w _ hx204_5)).trans hx204_5
          replace p204 := eq_true p204
          replace q204 := eq_true q204
          have p205 : 0 ≤ (0 : Int) := (by omega)
          have q205 : 0 < ((rd_L4 l0 x7_1).length : Int) := of_decide_eq_true (by first | (with_reducible assumption) | assumption)
          obtain ⟨ad205, e205, hx205_0, hx205_1, hx205_2, hx205_3, hx205_4, hx205_5⟩ := at_T88 HR203_0.out 0 p205 q205
          obtain rfl : ad204 = ad205 := (by injection e205)
          have qi205 : (0 < (rd_L4 l0 x7_1).length) = True := eq_true (by omega)
          (try rw [show ((0 : Int)).toNat = 0 from rfl] at hx205_0)
          (try rw [show 0 * 6 = 0 from rfl] at hx205_0)
          (try rw [Addr.add_zero'] at hx205_0)
          (try rw [show ((0 : Int)).toNat = 0 from rfl] at hx205_1)
          (try rw [show 0 * 6 = 0 from rfl] at hx205_1)
          (try rw [Addr.add_zero'] at hx205_1)
          (try rw [show ((0 : Int)).toNat = 0 from rfl] at hx205_2)
          (try rw [show 0 * 6 = 0 from rfl] at hx205_2)
          (try rw [Addr.add_zero'] at hx205_2)
          (try rw [show ((0 : Int)).toNat = 0 from rfl] at hx205_3)
          (try rw [show 0 * 6 = 0 from rfl] at hx205_3)
          (try rw [Addr.add_zero'] at hx205_3)
          (try rw [show ((0 : Int)).toNat = 0 from rfl] at hx205_4)
          (try rw [show 0 * 6 = 0 from rfl] at hx205_4)
          (try rw [Addr.add_zero'] at hx205_4)
          (try rw [show ((0 : Int)).toNat = 0 from rfl] at hx205_5)
          (try rw [show 0 * 6 = 0 from rfl] at hx205_5)
          (try rw [Addr.add_zero'] at hx205_5)
          replace hx205_0 := (HB.out.cell (World.block_lt_of_cell? w _ hx205_0)).trans hx205_0
          replace hx205_1 := (HB.out.cell (World.block_lt_of_cell? w _ hx205_1)).trans hx205_1
          replace hx205_2 := (HB.out.cell (World.block_lt_of_cell? w _ hx205_2)).trans hx205_2
          replace hx205_3 := (HB.out.cell (World.block_lt_of_cell? w _ hx205_3)).trans hx205_3
          replace hx205_4 := (HB.out.cell (World.block_lt_of_cell? w _ hx205_4)).trans hx205_4
          replace hx205_5 := (HB.out.cell (World.block_lt_of_cell? w _ hx205_5)).trans hx205_5
          replace p205 := eq_true p205
          replace q205 := eq_true q205
          go_wp2
          repeat (go_quiet (fail); try go_wp2)
          first | go_roundg k1 | (subst hji7; go_roundg k1)
          case measure => have := HK1.out; omega
          case rel => exact ⟨(wrap64 (x7_1 + 1)), (by first | rfl | (simp; done) | (simp [*]; done)), H', ⟨by have := HK1.out; omega⟩, ⟨by repeat (first | (with_reducible first | exact HB.out | apply below_alloc | apply pw_below_drewN | apply below_drew1) | exact HB.out)⟩⟩
        | clear hm1_3
          go_wp2
          repeat (go_quiet (fail); try go_wp2)
          go_roundg k1
          case measure => have := HK1.out; omega
          case rel => exact ⟨(wrap64 (x7_1 + 1)), (by first | rfl | (simp; done) | (simp [*]; done)), H', ⟨by have := HK1.out; omega⟩, ⟨by repeat (first | (with_reducible first | exact HB.out | apply below_alloc | apply pw_below_drewN | apply below_drew1) | exact HB.out)⟩⟩

end Go.Proofs.Ytbpbpojnfhhbjaa.PTubeAll
