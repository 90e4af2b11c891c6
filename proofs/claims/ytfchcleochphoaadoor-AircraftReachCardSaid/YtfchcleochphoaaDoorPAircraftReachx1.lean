/- Made by a program of this session (wip/tools/myprint.py, over the kit's printer): that the Go functions answer as the Lean functions printed beside them. -/
import Derived.Test.YtfchcleochphoaaDoorPAircraftReachx0
namespace Go.Proofs.YtfchcleochphoaaDoor.PAircraftReach
open Go.RowKit Go.Proofs.YtfchcleochphoaaDoorW.PrintWords Go.Proofs.YtfchcleochphoaaDoorW.PrintLast Go.Proofs.YtfchcleochphoaaDoorW.PrintMore
attribute [local go_sem] max2_int min2_int max_two min_two max_three min_three max_four min_four   -- for this text's walks alone
set_option linter.unusedVariables false
set_option linter.unusedSimpArgs false

/-! ### chart_Name: function 29 -/
mutual
def chart_Name.j0 : Nat → ByteArray → Bool → Option (Bool)
  | 0, _, _ => none
  | k + 1, x0, x22 => if x22 = true then (some false) else (chart_Name.l0 k x0 (x0.size : Int) 0)
def chart_Name.l0 : Nat → ByteArray → Int → Int → Option (Bool)
  | 0, _, _, _ => none
  | k + 1, x0, x24, x25 => if x25 < x24 then (if 0 ≤ x25 then (if x25 < (x0.size : Int) then (if (bt x0 x25) < 65 then (if (bt x0 x25) < 48 then (some false) else (if (bt x0 x25) > 57 then (some false) else (chart_Name.l0 k x0 x24 (wrap64 (x25 + 1))))) else (if (bt x0 x25) > 90 then (if (bt x0 x25) < 48 then (some false) else (if (bt x0 x25) > 57 then (some false) else (chart_Name.l0 k x0 x24 (wrap64 (x25 + 1))))) else (chart_Name.l0 k x0 x24 (wrap64 (x25 + 1))))) else (none)) else (none)) else (some true)
end
def chart_Name.f (k : Nat) (a0 : ByteArray) : Option (Bool) := if (a0.size : Int) = 0 then (chart_Name.j0 k a0 true) else (if (a0.size : Int) > 8 then (chart_Name.j0 k a0 true) else (if 0 < (a0.size : Int) then (if (bt a0 0) < 65 then (chart_Name.j0 k a0 true) else (chart_Name.j0 k a0 (decide ((bt a0 0) > 90)))) else (none)))
theorem chart_Name.mono_l : ∀ k, (∀ y0 y1, LeO (chart_Name.j0 k y0 y1) (chart_Name.j0 (k + 1) y0 y1)) ∧ (∀ y0 y1 y2, LeO (chart_Name.l0 k y0 y1 y2) (chart_Name.l0 (k + 1) y0 y1 y2))
  | 0 => ⟨fun _ _ r h => by simp [chart_Name.j0] at h, fun _ _ _ r h => by simp [chart_Name.l0] at h⟩
  | k + 1 => by
    obtain ⟨ih0, ih1⟩ := chart_Name.mono_l k
    refine ⟨?_, ?_⟩
    · intro y0 y1
      unfold chart_Name.j0
      repeat' first
      | (with_reducible exact ih0 _ _)
      | (with_reducible exact ih1 _ _ _)
      | (with_reducible exact LeO.refl _)
      | (with_reducible exact LeO.none _)
      | (with_reducible refine LeO.ite ?_ ?_)
      | (with_reducible refine LeO.bind ?_ (fun _ => ?_))
      | exact ih0 _ _
      | exact ih1 _ _ _
      | exact LeO.none _
      | refine LeO.ite ?_ ?_
      | refine LeO.bind ?_ (fun _ => ?_)
    · intro y0 y1 y2
      unfold chart_Name.l0
      repeat' first
      | (with_reducible exact ih0 _ _)
      | (with_reducible exact ih1 _ _ _)
      | (with_reducible exact LeO.refl _)
      | (with_reducible exact LeO.none _)
      | (with_reducible refine LeO.ite ?_ ?_)
      | (with_reducible refine LeO.bind ?_ (fun _ => ?_))
      | exact ih0 _ _
      | exact ih1 _ _ _
      | exact LeO.none _
      | refine LeO.ite ?_ ?_
      | refine LeO.bind ?_ (fun _ => ?_)
theorem chart_Name.mono : ∀ a0 k, LeO (chart_Name.f k a0) (chart_Name.f (k + 1) a0) := by
  intro a0 k
  obtain ⟨ih0, ih1⟩ := chart_Name.mono_l k
  unfold chart_Name.f
  repeat' first
      | (with_reducible exact ih0 _ _)
      | (with_reducible exact ih1 _ _ _)
      | (with_reducible exact LeO.refl _)
      | (with_reducible exact LeO.none _)
      | (with_reducible refine LeO.ite ?_ ?_)
      | (with_reducible refine LeO.bind ?_ (fun _ => ?_))
      | exact ih0 _ _
      | exact ih1 _ _ _
      | exact LeO.none _
      | refine LeO.ite ?_ ?_
      | refine LeO.bind ?_ (fun _ => ?_)
set_option maxHeartbeats 8000000 in
set_option maxRecDepth 100000 in
theorem chart_Name.calls (k : Nat) (a0 : ByteArray) (r : Bool) (w : World) (h : chart_Name.f k a0 = some r) :
    Calls Tryd.prog 29 #[.string a0] w fun e w' => e = .returned (.bool r) ∧ Below w.heap.size w w' := by
 have HB := Aside0.mk (Below.refl w.heap.size w)
 have H : (if (a0.size : Int) = 0 then (chart_Name.j0 k a0 true) else (if (a0.size : Int) > 8 then (chart_Name.j0 k a0 true) else (if 0 < (a0.size : Int) then (if (bt a0 0) < 65 then (chart_Name.j0 k a0 true) else (chart_Name.j0 k a0 (decide ((bt a0 0) > 90)))) else (none)))) = some r := h
 clear h
 have HC2 := Aside0.mk H
 clear H
 go_enter Tryd.func29, Tryd.ntmps29
 go_upto_region 1 with (fail)
 go_cut [22] (fun v22 wc => ∃ (kq : Nat) (x22_1 : Bool), v22 = .bool x22_1 ∧ Aside0 (chart_Name.j0 kq a0 x22_1 = some r) ∧ Aside0 (kq ≤ k) ∧ Aside0 (Below w.heap.size w wc))
 case first =>
  have H := HC2.out
  clear HC2
  refine Or.elim (Classical.em ((a0.size : Int) = 0)) (fun c3 => ?p2_) (fun c3 => ?n2_)
  case' p2_ =>
   rw [if_pos c3] at H
   have c3b0 : ((a0.size : Int) == 0) = true := beq_iff_eq.mpr c3
   have c3b1 : ((a0.size : Int) != 0) = false := bne_eq_false_iff_eq.mpr c3
   clear c3
   (first | rw [c3b0] | (simp only [i64_w, i32_w]; rw [c3b0]) | skip)
   have hm1_0 := Aside0.mk trivial
  case' n2_ =>
   rw [if_neg c3] at H
   have c3b0 : ((a0.size : Int) == 0) = false := beq_eq_false_iff_ne.mpr c3
   have c3b1 : ((a0.size : Int) != 0) = true := bne_iff_ne.mpr c3
   (first | rw [c3b0] | (simp only [i64_w, i32_w]; rw [c3b0]) | skip)
   refine Or.elim (Classical.em ((a0.size : Int) > 8)) (fun c4 => ?p3_) (fun c4 => ?n3_)
   case' p3_ =>
    rw [if_pos c4] at H
    have c4b0 : decide (8 < (a0.size : Int)) = true := decide_eq_true c4
    have c4b1 : decide (8 < a0.size) = true := decide_eq_true (by omega)
    clear c4
    have hm1_0 := Aside0.mk trivial
   case' n3_ =>
    rw [if_neg c4] at H
    have c4b0 : decide (8 < (a0.size : Int)) = false := decide_eq_false c4
    have c4b1 : decide (8 < a0.size) = false := decide_eq_false (by omega)
    clear c4
    refine Or.elim (Classical.em (0 < (a0.size : Int))) (fun c5 => ?p4_) (fun c5 => ?n4_)
    case' p4_ =>
     rw [if_pos c5] at H
     have c5b0 : decide (0 < (a0.size : Int)) = true := decide_eq_true c5
     have c5b1 : decide (0 < a0.size) = true := decide_eq_true (by omega)
     clear c5
     refine Or.elim (Classical.em ((bt a0 0) < 65)) (fun c7 => ?p5_) (fun c7 => ?n5_)
     case' p5_ =>
      rw [if_pos c7] at H
      have c7b0 : decide ((bt a0 0) < 65) = true := decide_eq_true c7
      clear c7
      have hm1_1 := Aside0.mk trivial
     case' n5_ =>
      rw [if_neg c7] at H
      have c7b0 : decide ((bt a0 0) < 65) = false := decide_eq_false c7
      clear c7
      have hm1_2 := Aside0.mk trivial
    case' n4_ =>
     rw [if_neg c5] at H
     exact absurd H (by simp)
  all_goals
   have H' := Aside0.mk H
   clear H
   first
    | clear hm1_0
      go_wp2
      go_meet
      case rel => exact ⟨_, (true), (by first | rfl | (simp; done) | (simp [*]; done)), H', ⟨by first | omega | exact Nat.le_refl _⟩, ⟨by repeat (first | (with_reducible first | exact HB.out | apply below_alloc | apply pw_below_drewN | apply below_drew1) | exact HB.out)⟩⟩
    | (first | (have _hm := hm1_1) | (have _hm := hm1_2))
      have p6 : 0 ≤ (0 : Int) := (by omega)
      have q6 : 0 < a0.size := (by have : (0 : Int) < (a0.size : Int) := of_decide_eq_true (by first | (with_reducible assumption) | assumption); omega)
      have hx6 : ∀ h : 0 < a0.size, ((a0[0]'h).toNat : Int) = bt a0 0 := bt_at a0 0
      clear p6
      have qi6 : (0 < (a0.size : Int)) = True := eq_true (of_decide_eq_true (by first | (with_reducible assumption) | assumption))
      replace q6 := eq_true q6
      first
       | clear hm1_1
         go_wp2
         go_meet
         case rel => exact ⟨_, (true), (by first | rfl | (simp; done) | (simp [*]; done)), H', ⟨by first | omega | exact Nat.le_refl _⟩, ⟨by repeat (first | (with_reducible first | exact HB.out | apply below_alloc | apply pw_below_drewN | apply below_drew1) | exact HB.out)⟩⟩
       | clear hm1_2
         have p8 : 0 ≤ (0 : Int) := (by omega)
         have q8 : 0 < a0.size := (by have : (0 : Int) < (a0.size : Int) := of_decide_eq_true (by first | (with_reducible assumption) | assumption); omega)
         have hx8 : ∀ h : 0 < a0.size, ((a0[0]'h).toNat : Int) = bt a0 0 := bt_at a0 0
         clear p8
         have qi8 : (0 < (a0.size : Int)) = True := eq_true (of_decide_eq_true (by first | (with_reducible assumption) | assumption))
         replace q8 := eq_true q8
         go_wp2
         go_meet
         case rel => exact ⟨_, (decide ((bt a0 0) > 90)), (by first | rfl | (simp; done) | (simp [*]; done)), H', ⟨by first | omega | exact Nat.le_refl _⟩, ⟨by repeat (first | (with_reducible first | exact HB.out | apply below_alloc | apply pw_below_drewN | apply below_drew1) | exact HB.out)⟩⟩
 case rest =>
  clear HC2
  (try clear c2); (try clear p2); (try clear c3); (try clear c3b0); (try clear c3b1); (try clear c4); (try clear c4b0); (try clear c4b1); (try clear c5); (try clear c5b0); (try clear c5b1); (try clear p6); (try clear q6); (try clear hx6); (try clear qi6); (try clear c7); (try clear c7b0); (try clear p8); (try clear q8); (try clear hx8); (try clear qi8); (try clear p6); (try clear p8); (try clear q6); (try clear q8)
  obtain ⟨kq, x22_1, rfl, HA, HJ1, HB⟩ := hcut
  cases kq with
  | zero => exact absurd HA.out (by simp [chart_Name.j0])
  | succ kj1 =>
   have H := HA.out
   clear HA
   simp only [chart_Name.j0] at H
   by_cases c9 : x22_1 = true
   · subst c9
     have H1 : (some false) = some r := by rw [if_pos rfl] at H; exact H
     clear H
     have H := H1
     clear H1
     obtain rfl := Option.some.inj H
     go_wp2
     go_ret
     exact ⟨by first | rfl | (simp [errW_none, errW_some] <;> rfl) | (simp [*, errW_none, errW_some] <;> rfl), by repeat (first | (with_reducible first | exact HB.out | apply below_alloc | apply pw_below_drewN | apply below_drew1) | exact HB.out)⟩
   · replace c9 := Bool.eq_false_iff.mpr c9
     subst c9
     have H1 : (chart_Name.l0 kj1 a0 (a0.size : Int) 0) = some r := by rw [if_neg (show ¬ (false = true) by decide)] at H; exact H
     clear H
     have H := H1
     clear H1
     have H' := Aside0.mk H
     clear H
     go_wp2
     go_loopg [25] kj1 (fun kq v25 w' => ∃ (x25_2 : Int), v25 = .int .i64 x25_2 ∧ Aside0 (chart_Name.l0 kq a0 (a0.size : Int) x25_2 = some r) ∧ Aside0 (kq ≤ kj1) ∧ Aside0 (Below w.heap.size w w'))
     case atStart => exact ⟨(0), (by first | rfl | (simp; done) | (simp [*]; done)), H', ⟨Nat.le_refl _⟩, ⟨by repeat (first | (with_reducible first | exact HB.out | apply below_alloc | apply pw_below_drewN | apply below_drew1) | exact HB.out)⟩⟩
     case round =>
      clear H'
      (try clear c2); (try clear p2); (try clear c3); (try clear c3b0); (try clear c3b1); (try clear c4); (try clear c4b0); (try clear c4b1); (try clear c5); (try clear c5b0); (try clear c5b1); (try clear p6); (try clear q6); (try clear hx6); (try clear qi6); (try clear c7); (try clear c7b0); (try clear p8); (try clear q8); (try clear hx8); (try clear qi8); (try clear c9); (try clear p2); (try clear p6); (try clear p8); (try clear q6); (try clear q8)
      obtain ⟨x25_2, rfl, HA, HK2, HB⟩ := hrel
      cases gk with
      | zero => exact absurd HA.out (by simp [chart_Name.l0])
      | succ k2 =>
       have H := HA.out
       clear HA
       simp only [chart_Name.l0] at H
       refine Or.elim (Classical.em (x25_2 < (a0.size : Int))) (fun c10 => ?p7_) (fun c10 => ?n7_)
       case' p7_ =>
        rw [if_pos c10] at H
        have c10b0 : decide (x25_2 < (a0.size : Int)) = true := decide_eq_true c10
        clear c10
        refine Or.elim (Classical.em (0 ≤ x25_2)) (fun c11 => ?p8_) (fun c11 => ?n8_)
        case' p8_ =>
         rw [if_pos c11] at H
         have c11b0 : decide (0 ≤ x25_2) = true := decide_eq_true c11
         clear c11
         refine Or.elim (Classical.em (x25_2 < (a0.size : Int))) (fun c12 => ?p9_) (fun c12 => ?n9_)
         case' p9_ =>
          rw [if_pos c12] at H
          have c12b0 : decide (x25_2 < (a0.size : Int)) = true := decide_eq_true c12
          clear c12
          refine Or.elim (Classical.em ((bt a0 x25_2) < 65)) (fun c14 => ?p10_) (fun c14 => ?n10_)
          case' p10_ =>
           rw [if_pos c14] at H
           have c14b0 : decide ((bt a0 x25_2) < 65) = true := decide_eq_true c14
           clear c14
           refine Or.elim (Classical.em ((bt a0 x25_2) < 48)) (fun c15 => ?p11_) (fun c15 => ?n11_)
           case' p11_ =>
            rw [if_pos c15] at H
            have c15b0 : decide ((bt a0 x25_2) < 48) = true := decide_eq_true c15
            clear c15
            have hm6_0 := Aside0.mk trivial
           case' n11_ =>
            rw [if_neg c15] at H
            have c15b0 : decide ((bt a0 x25_2) < 48) = false := decide_eq_false c15
            clear c15
            refine Or.elim (Classical.em ((bt a0 x25_2) > 57)) (fun c16 => ?p12_) (fun c16 => ?n12_)
            case' p12_ =>
             rw [if_pos c16] at H
             have c16b0 : decide (57 < (bt a0 x25_2)) = true := decide_eq_true c16
             clear c16
             have hm6_0 := Aside0.mk trivial
            case' n12_ =>
             rw [if_neg c16] at H
             have c16b0 : decide (57 < (bt a0 x25_2)) = false := decide_eq_false c16
             clear c16
             have hm6_1 := Aside0.mk trivial
          case' n10_ =>
           rw [if_neg c14] at H
           have c14b0 : decide ((bt a0 x25_2) < 65) = false := decide_eq_false c14
           clear c14
           refine Or.elim (Classical.em ((bt a0 x25_2) > 90)) (fun c17 => ?p13_) (fun c17 => ?n13_)
           case' p13_ =>
            rw [if_pos c17] at H
            have c17b0 : decide (90 < (bt a0 x25_2)) = true := decide_eq_true c17
            clear c17
            refine Or.elim (Classical.em ((bt a0 x25_2) < 48)) (fun c18 => ?p14_) (fun c18 => ?n14_)
            case' p14_ =>
             rw [if_pos c18] at H
             have c18b0 : decide ((bt a0 x25_2) < 48) = true := decide_eq_true c18
             clear c18
             have hm6_0 := Aside0.mk trivial
            case' n14_ =>
             rw [if_neg c18] at H
             have c18b0 : decide ((bt a0 x25_2) < 48) = false := decide_eq_false c18
             clear c18
             refine Or.elim (Classical.em ((bt a0 x25_2) > 57)) (fun c19 => ?p15_) (fun c19 => ?n15_)
             case' p15_ =>
              rw [if_pos c19] at H
              have c19b0 : decide (57 < (bt a0 x25_2)) = true := decide_eq_true c19
              clear c19
              have hm6_0 := Aside0.mk trivial
             case' n15_ =>
              rw [if_neg c19] at H
              have c19b0 : decide (57 < (bt a0 x25_2)) = false := decide_eq_false c19
              clear c19
              have hm6_1 := Aside0.mk trivial
           case' n13_ =>
            rw [if_neg c17] at H
            have c17b0 : decide (90 < (bt a0 x25_2)) = false := decide_eq_false c17
            clear c17
            have hm6_1 := Aside0.mk trivial
         case' n9_ =>
          rw [if_neg c12] at H
          exact absurd H (by simp)
        case' n8_ =>
         rw [if_neg c11] at H
         exact absurd H (by simp)
       case' n7_ =>
        rw [if_neg c10] at H
        have c10b0 : decide (x25_2 < (a0.size : Int)) = false := decide_eq_false c10
        clear c10
        have hm6_2 := Aside0.mk trivial
       all_goals
        first
         | (first | (have _hm := hm6_0) | (have _hm := hm6_2))
           obtain rfl := Option.some.inj H
           first
            | clear hm6_0
              have p13 : 0 ≤ (x25_2 : Int) := of_decide_eq_true (by first | (with_reducible assumption) | assumption)
              have q13 : x25_2 < (a0.size : Int) := of_decide_eq_true (by first | (with_reducible assumption) | assumption)
              have hx13 := bt_at a0 x25_2
              replace p13 := eq_true p13
              replace q13 := eq_true q13
              go_wp2
              go_ret
              exact ⟨by first | rfl | (simp [errW_none, errW_some] <;> rfl) | (simp [*, errW_none, errW_some] <;> rfl), by repeat (first | (with_reducible first | exact HB.out | apply below_alloc | apply pw_below_drewN | apply below_drew1) | exact HB.out)⟩
            | clear hm6_2
              go_wp2
              go_ret
              exact ⟨by first | rfl | (simp [errW_none, errW_some] <;> rfl) | (simp [*, errW_none, errW_some] <;> rfl), by repeat (first | (with_reducible first | exact HB.out | apply below_alloc | apply pw_below_drewN | apply below_drew1) | exact HB.out)⟩
         | clear hm6_1
           have H' := Aside0.mk H
           clear H
           have p13 : 0 ≤ (x25_2 : Int) := of_decide_eq_true (by first | (with_reducible assumption) | assumption)
           have q13 : x25_2 < (a0.size : Int) := of_decide_eq_true (by first | (with_reducible assumption) | assumption)
           have hx13 := bt_at a0 x25_2
           replace p13 := eq_true p13
           replace q13 := eq_true q13
           go_wp2
           go_roundg k2
           case measure => have := HJ1.out; have := HK2.out; omega
           case rel => exact ⟨(wrap64 (x25_2 + 1)), (by first | rfl | (simp; done) | (simp [*]; done)), H', ⟨by have := HJ1.out; have := HK2.out; omega⟩, ⟨by repeat (first | (with_reducible first | exact HB.out | apply below_alloc | apply pw_below_drewN | apply below_drew1) | exact HB.out)⟩⟩

/-! ### aircraft_Check: function 14 -/
mutual
def aircraft_Check.j0 : Nat → Bool → ByteArray → Int → Int → Int → Int → Int → Int → Option (Int)
  | 0, _, _, _, _, _, _, _, _ => none
  | k + 1, x8, x102000, x102001, x102002, x102003, x102004, x102005, x102006 => if x8 = true then (some 1) else (if x102002 < 1 then (aircraft_Check.j1 k true x102000 x102001 x102002 x102003 x102004 x102005 x102006) else (aircraft_Check.j1 k (decide (x102002 > 60000)) x102000 x102001 x102002 x102003 x102004 x102005 x102006))
def aircraft_Check.j1 : Nat → Bool → ByteArray → Int → Int → Int → Int → Int → Int → Option (Int)
  | 0, _, _, _, _, _, _, _, _ => none
  | k + 1, x17, x102000, x102001, x102002, x102003, x102004, x102005, x102006 => if x17 = true then (aircraft_Check.j2 k x17 x102000 x102001 x102002 x102003 x102004 x102005 x102006) else (if x102003 < 1 then (aircraft_Check.j2 k true x102000 x102001 x102002 x102003 x102004 x102005 x102006) else (if x102003 > 200 then (aircraft_Check.j2 k (decide (x102003 > 200)) x102000 x102001 x102002 x102003 x102004 x102005 x102006) else (if x102004 < 1 then (aircraft_Check.j2 k true x102000 x102001 x102002 x102003 x102004 x102005 x102006) else (aircraft_Check.j2 k (decide (x102004 > 200)) x102000 x102001 x102002 x102003 x102004 x102005 x102006))))
def aircraft_Check.j2 : Nat → Bool → ByteArray → Int → Int → Int → Int → Int → Int → Option (Int)
  | 0, _, _, _, _, _, _, _, _ => none
  | k + 1, x17, x102000, x102001, x102002, x102003, x102004, x102005, x102006 => if x17 = true then (some 4) else (if x102005 < 1 then (aircraft_Check.j3 k true x102000 x102001 x102002 x102003 x102004 x102005 x102006) else (if x102005 > 400 then (aircraft_Check.j3 k true x102000 x102001 x102002 x102003 x102004 x102005 x102006) else (if x102006 < 1 then (aircraft_Check.j3 k true x102000 x102001 x102002 x102003 x102004 x102005 x102006) else (aircraft_Check.j3 k (decide (x102006 > 400)) x102000 x102001 x102002 x102003 x102004 x102005 x102006))))
def aircraft_Check.j3 : Nat → Bool → ByteArray → Int → Int → Int → Int → Int → Int → Option (Int)
  | 0, _, _, _, _, _, _, _, _ => none
  | k + 1, x42, x102000, x102001, x102002, x102003, x102004, x102005, x102006 => if x42 = true then (some 4) else (if x102005 > x102006 then (some 3) else (some 0))
end
def aircraft_Check.f (k : Nat) (a0_0 : ByteArray) (a0_1 : Int) (a0_2 : Int) (a0_3 : Int) (a0_4 : Int) (a0_5 : Int) (a0_6 : Int) : Option (Int) := (chart_Name.f k a0_0).bind fun t102 => (if t102 = true then (if a0_1 < 0 then (aircraft_Check.j0 k true a0_0 a0_1 a0_2 a0_3 a0_4 a0_5 a0_6) else (aircraft_Check.j0 k (decide (a0_1 > 3)) a0_0 a0_1 a0_2 a0_3 a0_4 a0_5 a0_6)) else (some 5))
theorem aircraft_Check.mono_l : ∀ k, (∀ y0 y1 y2 y3 y4 y5 y6 y7, LeO (aircraft_Check.j0 k y0 y1 y2 y3 y4 y5 y6 y7) (aircraft_Check.j0 (k + 1) y0 y1 y2 y3 y4 y5 y6 y7)) ∧ (∀ y0 y1 y2 y3 y4 y5 y6 y7, LeO (aircraft_Check.j1 k y0 y1 y2 y3 y4 y5 y6 y7) (aircraft_Check.j1 (k + 1) y0 y1 y2 y3 y4 y5 y6 y7)) ∧ (∀ y0 y1 y2 y3 y4 y5 y6 y7, LeO (aircraft_Check.j2 k y0 y1 y2 y3 y4 y5 y6 y7) (aircraft_Check.j2 (k + 1) y0 y1 y2 y3 y4 y5 y6 y7)) ∧ (∀ y0 y1 y2 y3 y4 y5 y6 y7, LeO (aircraft_Check.j3 k y0 y1 y2 y3 y4 y5 y6 y7) (aircraft_Check.j3 (k + 1) y0 y1 y2 y3 y4 y5 y6 y7))
  | 0 => ⟨fun _ _ _ _ _ _ _ _ r h => by simp [aircraft_Check.j0] at h, fun _ _ _ _ _ _ _ _ r h => by simp [aircraft_Check.j1] at h, fun _ _ _ _ _ _ _ _ r h => by simp [aircraft_Check.j2] at h, fun _ _ _ _ _ _ _ _ r h => by simp [aircraft_Check.j3] at h⟩
  | k + 1 => by
    obtain ⟨ih0, ih1, ih2, ih3⟩ := aircraft_Check.mono_l k
    refine ⟨?_, ?_, ?_, ?_⟩
    · intro y0 y1 y2 y3 y4 y5 y6 y7
      unfold aircraft_Check.j0
      repeat' first
      | (with_reducible exact ih0 _ _ _ _ _ _ _ _)
      | (with_reducible exact ih1 _ _ _ _ _ _ _ _)
      | (with_reducible exact ih2 _ _ _ _ _ _ _ _)
      | (with_reducible exact ih3 _ _ _ _ _ _ _ _)
      | (with_reducible exact chart_Name.mono _ _)
      | (with_reducible exact LeO.refl _)
      | (with_reducible exact LeO.none _)
      | (with_reducible refine LeO.ite ?_ ?_)
      | (with_reducible refine LeO.bind ?_ (fun _ => ?_))
      | exact ih0 _ _ _ _ _ _ _ _
      | exact ih1 _ _ _ _ _ _ _ _
      | exact ih2 _ _ _ _ _ _ _ _
      | exact ih3 _ _ _ _ _ _ _ _
      | exact chart_Name.mono _ _
      | exact LeO.none _
      | refine LeO.ite ?_ ?_
      | refine LeO.bind ?_ (fun _ => ?_)
    · intro y0 y1 y2 y3 y4 y5 y6 y7
      unfold aircraft_Check.j1
      repeat' first
      | (with_reducible exact ih0 _ _ _ _ _ _ _ _)
      | (with_reducible exact ih1 _ _ _ _ _ _ _ _)
      | (with_reducible exact ih2 _ _ _ _ _ _ _ _)
      | (with_reducible exact ih3 _ _ _ _ _ _ _ _)
      | (with_reducible exact chart_Name.mono _ _)
      | (with_reducible exact LeO.refl _)
      | (with_reducible exact LeO.none _)
      | (with_reducible refine LeO.ite ?_ ?_)
      | (with_reducible refine LeO.bind ?_ (fun _ => ?_))
      | exact ih0 _ _ _ _ _ _ _ _
      | exact ih1 _ _ _ _ _ _ _ _
      | exact ih2 _ _ _ _ _ _ _ _
      | exact ih3 _ _ _ _ _ _ _ _
      | exact chart_Name.mono _ _
      | exact LeO.none _
      | refine LeO.ite ?_ ?_
      | refine LeO.bind ?_ (fun _ => ?_)
    · intro y0 y1 y2 y3 y4 y5 y6 y7
      unfold aircraft_Check.j2
      repeat' first
      | (with_reducible exact ih0 _ _ _ _ _ _ _ _)
      | (with_reducible exact ih1 _ _ _ _ _ _ _ _)
      | (with_reducible exact ih2 _ _ _ _ _ _ _ _)
      | (with_reducible exact ih3 _ _ _ _ _ _ _ _)
      | (with_reducible exact chart_Name.mono _ _)
      | (with_reducible exact LeO.refl _)
      | (with_reducible exact LeO.none _)
      | (with_reducible refine LeO.ite ?_ ?_)
      | (with_reducible refine LeO.bind ?_ (fun _ => ?_))
      | exact ih0 _ _ _ _ _ _ _ _
      | exact ih1 _ _ _ _ _ _ _ _
      | exact ih2 _ _ _ _ _ _ _ _
      | exact ih3 _ _ _ _ _ _ _ _
      | exact chart_Name.mono _ _
      | exact LeO.none _
      | refine LeO.ite ?_ ?_
      | refine LeO.bind ?_ (fun _ => ?_)
    · intro y0 y1 y2 y3 y4 y5 y6 y7
      unfold aircraft_Check.j3
      repeat' first
      | (with_reducible exact ih0 _ _ _ _ _ _ _ _)
      | (with_reducible exact ih1 _ _ _ _ _ _ _ _)
      | (with_reducible exact ih2 _ _ _ _ _ _ _ _)
      | (with_reducible exact ih3 _ _ _ _ _ _ _ _)
      | (with_reducible exact chart_Name.mono _ _)
      | (with_reducible exact LeO.refl _)
      | (with_reducible exact LeO.none _)
      | (with_reducible refine LeO.ite ?_ ?_)
      | (with_reducible refine LeO.bind ?_ (fun _ => ?_))
      | exact ih0 _ _ _ _ _ _ _ _
      | exact ih1 _ _ _ _ _ _ _ _
      | exact ih2 _ _ _ _ _ _ _ _
      | exact ih3 _ _ _ _ _ _ _ _
      | exact chart_Name.mono _ _
      | exact LeO.none _
      | refine LeO.ite ?_ ?_
      | refine LeO.bind ?_ (fun _ => ?_)
theorem aircraft_Check.mono : ∀ a0 a1 a2 a3 a4 a5 a6 k, LeO (aircraft_Check.f k a0 a1 a2 a3 a4 a5 a6) (aircraft_Check.f (k + 1) a0 a1 a2 a3 a4 a5 a6) := by
  intro a0 a1 a2 a3 a4 a5 a6 k
  obtain ⟨ih0, ih1, ih2, ih3⟩ := aircraft_Check.mono_l k
  unfold aircraft_Check.f
  repeat' first
      | (with_reducible exact ih0 _ _ _ _ _ _ _ _)
      | (with_reducible exact ih1 _ _ _ _ _ _ _ _)
      | (with_reducible exact ih2 _ _ _ _ _ _ _ _)
      | (with_reducible exact ih3 _ _ _ _ _ _ _ _)
      | (with_reducible exact chart_Name.mono _ _)
      | (with_reducible exact LeO.refl _)
      | (with_reducible exact LeO.none _)
      | (with_reducible refine LeO.ite ?_ ?_)
      | (with_reducible refine LeO.bind ?_ (fun _ => ?_))
      | exact ih0 _ _ _ _ _ _ _ _
      | exact ih1 _ _ _ _ _ _ _ _
      | exact ih2 _ _ _ _ _ _ _ _
      | exact ih3 _ _ _ _ _ _ _ _
      | exact chart_Name.mono _ _
      | exact LeO.none _
      | refine LeO.ite ?_ ?_
      | refine LeO.bind ?_ (fun _ => ?_)
set_option maxHeartbeats 8000000 in
set_option maxRecDepth 100000 in
theorem aircraft_Check.calls (k : Nat) (a0_0 : ByteArray) (a0_1 : Int) (a0_2 : Int) (a0_3 : Int) (a0_4 : Int) (a0_5 : Int) (a0_6 : Int) (r : Int) (w : World) (h : aircraft_Check.f k a0_0 a0_1 a0_2 a0_3 a0_4 a0_5 a0_6 = some r) :
    Calls Tryd.prog 14 #[.agg #[.string a0_0, .int .i64 a0_1, .int .i64 a0_2, .int .i64 a0_3, .int .i64 a0_4, .int .i64 a0_5, .int .i64 a0_6]] w fun e w' => e = .returned (.int .i64 r) ∧ Below w.heap.size w w' := by
 have hu23 := Tryd.underlying23
 have HB := Aside0.mk (Below.refl w.heap.size w)
 have H : ((chart_Name.f k a0_0).bind fun t102 => (if t102 = true then (if a0_1 < 0 then (aircraft_Check.j0 k true a0_0 a0_1 a0_2 a0_3 a0_4 a0_5 a0_6) else (aircraft_Check.j0 k (decide (a0_1 > 3)) a0_0 a0_1 a0_2 a0_3 a0_4 a0_5 a0_6)) else (some 5))) = some r := h
 clear h
 replace H := Option.bind_eq_some_iff.mp H
 obtain ⟨t102, A20, H⟩ := H
 replace H : (if t102 = true then (if a0_1 < 0 then (aircraft_Check.j0 k true a0_0 a0_1 a0_2 a0_3 a0_4 a0_5 a0_6) else (aircraft_Check.j0 k (decide (a0_1 > 3)) a0_0 a0_1 a0_2 a0_3 a0_4 a0_5 a0_6)) else (some 5)) = some r := H
 have A2 := Aside0.mk A20
 clear A20
 by_cases c3 : t102 = true
 · subst c3
   have H1 : (if a0_1 < 0 then (aircraft_Check.j0 k true a0_0 a0_1 a0_2 a0_3 a0_4 a0_5 a0_6) else (aircraft_Check.j0 k (decide (a0_1 > 3)) a0_0 a0_1 a0_2 a0_3 a0_4 a0_5 a0_6)) = some r := by rw [if_pos rfl] at H; exact H
   clear H
   have H := H1
   clear H1
   have HC4 := Aside0.mk H
   clear H
   go_enter Tryd.func14, Tryd.ntmps14
   go_upto_region 3 with (first | ((with_reducible refine gate_dst (N := 1) rfl ?_); refine box_event ?hg (N := 1) ?hd (cs := #[.string a0_0, .int .i64 a0_1, .int .i64 a0_2, .int .i64 a0_3, .int .i64 a0_4, .int .i64 a0_5, .int .i64 a0_6]) (t := 23) ?hr ?_; (case hd => rfl); (case hg => rfl); (case hr => first | (go_simp; done) | (go_simp; rfl)); intro gb101 hg wx34c31 hbox hb; have n0_ := Aside0.mk (below_step (by repeat (first | (with_reducible first | exact HB.out | apply below_alloc | apply pw_below_drewN | apply below_drew1) | exact HB.out)) hb); have n1_ := Aside0.mk (hbox); have n2_ := Aside0.mk ((by rw [hg]; exact (below_size (by repeat (first | (with_reducible first | exact HB.out | apply below_alloc | apply pw_below_drewN | apply below_drew1) | exact HB.out))) : w.heap.size ≤ gb101)); have n3_ := Aside0.mk ((by rw [hg]; exact (below_size (by repeat (first | (with_reducible first | exact HB.out | apply below_alloc | apply pw_below_drewN | apply below_drew1) | exact HB.out))) : w.heap.size ≤ gb101)); clear HB; have HB := n0_; have BK101 := n1_; have GW101 := n2_; have GE101 := n3_; clear n0_ n1_ n2_ n3_; clear hb hbox hg; have hczx34c31 : wx34c31.cell? ⟨gb101, 0, none⟩ = some (.string a0_0) := (blk_cell BK101.out 0).trans rfl; have hczx34c32 : wx34c31.cell? ⟨gb101, 1, none⟩ = some (.int .i64 a0_1) := (blk_cell BK101.out 1).trans rfl; have hczx34c33 : wx34c31.cell? ⟨gb101, 2, none⟩ = some (.int .i64 a0_2) := (blk_cell BK101.out 2).trans rfl; have hczx34c34 : wx34c31.cell? ⟨gb101, 3, none⟩ = some (.int .i64 a0_3) := (blk_cell BK101.out 3).trans rfl; have hczx34c35 : wx34c31.cell? ⟨gb101, 4, none⟩ = some (.int .i64 a0_4) := (blk_cell BK101.out 4).trans rfl; have hczx34c36 : wx34c31.cell? ⟨gb101, 5, none⟩ = some (.int .i64 a0_5) := (blk_cell BK101.out 5).trans rfl; have hczx34c37 : wx34c31.cell? ⟨gb101, 6, none⟩ = some (.int .i64 a0_6) := (blk_cell BK101.out 6).trans rfl; have hfzx34c31 := blk_frozen BK101.out 0; have hfzx34c32 := blk_frozen BK101.out 1; have hfzx34c33 := blk_frozen BK101.out 2; have hfzx34c34 := blk_frozen BK101.out 3; have hfzx34c35 := blk_frozen BK101.out 4; have hfzx34c36 := blk_frozen BK101.out 5; have hfzx34c37 := blk_frozen BK101.out 6) | ((with_reducible refine gate_callee (f := 29) rfl ?_); refine goesL_ (some 6) rfl rfl Tryd.func29 (by kernel_rfl) rfl #[.string a0_0] rfl (by (try simp only [List.map_toArray, List.map_cons, List.map_nil]); first | done | rfl | (simp only [List.length_drop, List.length_take]; rfl)) ?_; (with_reducible refine (chart_Name.calls k a0_0 true _ A2.out).mono ?_); rintro e wx60311 ⟨rfl, hb⟩; refine ⟨_, rfl, ?_⟩; have n0_ := Aside0.mk (blk_below (g := gb101) (o := .cells #[.string a0_0, .int .i64 a0_1, .int .i64 a0_2, .int .i64 a0_3, .int .i64 a0_4, .int .i64 a0_5, .int .i64 a0_6] 23 (0, 0)) (by (with_reducible repeat (first | refine blk_drewN ?_ _ | refine blk_drew ?_ | refine blk_alloc ?_ _)); exact BK101.out) hb); have n1_ := Aside0.mk (below_step (by repeat (first | (with_reducible first | exact HB.out | apply below_alloc | apply pw_below_drewN | apply below_drew1 | refine below_set ?_ GE101.out) | exact HB.out)) hb); clear BK101; clear HB; have BK101 := n0_; have HB := n1_; clear n0_ n1_; (try clear hb); (try clear hb2); (try clear hk); (try clear hi)))
   (try simp only [Act.put, List.setIfInBounds_toArray, List.set_cons_zero, List.set_cons_succ])
   go_cut [8] (fun v8 wc => ∃ (kq : Nat) (x8_3 : Bool), v8 = .bool x8_3 ∧ Aside0 (aircraft_Check.j0 kq x8_3 a0_0 a0_1 a0_2 a0_3 a0_4 a0_5 a0_6 = some r) ∧ Aside0 (kq ≤ k) ∧ Aside0 (wc.heap[gb101]? = some (.cells #[.string a0_0, .int .i64 a0_1, .int .i64 a0_2, .int .i64 a0_3, .int .i64 a0_4, .int .i64 a0_5, .int .i64 a0_6] 23 (0, 0))) ∧ Aside0 (Below w.heap.size w wc))
   case first =>
    have H := HC4.out
    clear HC4
    refine Or.elim (Classical.em (a0_1 < 0)) (fun c8 => ?p2_) (fun c8 => ?n2_)
    case' p2_ =>
     rw [if_pos c8] at H
     have c8b0 : decide (a0_1 < 0) = true := decide_eq_true c8
     clear c8
     (first | rw [c8b0] | (simp only [i64_w, i32_w]; rw [c8b0]) | skip)
    case' n2_ =>
     rw [if_neg c8] at H
     have c8b0 : decide (a0_1 < 0) = false := decide_eq_false c8
     clear c8
     (first | rw [c8b0] | (simp only [i64_w, i32_w]; rw [c8b0]) | skip)
    all_goals
     have H' := Aside0.mk H
     clear H
     have hczzb1 : wx60311.cell? ⟨gb101, 0, none⟩ = some (.string a0_0) := (blk_cell BK101.out 0).trans rfl
     have hczzb2 : wx60311.cell? ⟨gb101, 1, none⟩ = some (.int .i64 a0_1) := (blk_cell BK101.out 1).trans rfl
     have hczzb3 : wx60311.cell? ⟨gb101, 2, none⟩ = some (.int .i64 a0_2) := (blk_cell BK101.out 2).trans rfl
     have hczzb4 : wx60311.cell? ⟨gb101, 3, none⟩ = some (.int .i64 a0_3) := (blk_cell BK101.out 3).trans rfl
     have hczzb5 : wx60311.cell? ⟨gb101, 4, none⟩ = some (.int .i64 a0_4) := (blk_cell BK101.out 4).trans rfl
     have hczzb6 : wx60311.cell? ⟨gb101, 5, none⟩ = some (.int .i64 a0_5) := (blk_cell BK101.out 5).trans rfl
     have hczzb7 : wx60311.cell? ⟨gb101, 6, none⟩ = some (.int .i64 a0_6) := (blk_cell BK101.out 6).trans rfl
     have hfzzb1 := blk_frozen BK101.out 0
     have hfzzb2 := blk_frozen BK101.out 1
     have hfzzb3 := blk_frozen BK101.out 2
     have hfzzb4 := blk_frozen BK101.out 3
     have hfzzb5 := blk_frozen BK101.out 4
     have hfzzb6 := blk_frozen BK101.out 5
     have hfzzb7 := blk_frozen BK101.out 6
     go_wp2
     go_meet
     case rel => first | (exact ⟨_, (true), (by first | rfl | (simp; done) | (simp [*]; done)), H', ⟨by first | omega | exact Nat.le_refl _⟩, ⟨by (with_reducible repeat (first | refine blk_drewN ?_ _ | refine blk_drew ?_ | refine blk_alloc ?_ _)); exact BK101.out⟩, ⟨by repeat (first | (with_reducible first | exact HB.out | apply below_alloc | apply pw_below_drewN | apply below_drew1 | refine below_set ?_ GE101.out) | exact HB.out)⟩⟩) | (exact ⟨_, (decide (a0_1 > 3)), (by first | rfl | (simp; done) | (simp [*]; done)), H', ⟨by first | omega | exact Nat.le_refl _⟩, ⟨by (with_reducible repeat (first | refine blk_drewN ?_ _ | refine blk_drew ?_ | refine blk_alloc ?_ _)); exact BK101.out⟩, ⟨by repeat (first | (with_reducible first | exact HB.out | apply below_alloc | apply pw_below_drewN | apply below_drew1 | refine below_set ?_ GE101.out) | exact HB.out)⟩⟩)
   case rest =>
    clear HC4
    (try clear c1); (try clear c2); (try clear p2); (try clear c3); (try clear c8); (try clear c8b0); (try clear hczza8); (try clear hczza9); (try clear hczza10); (try clear hczza11); (try clear hczza12); (try clear hczza13); (try clear hczza14); (try clear hczx34c31); (try clear hczx34c32); (try clear hczx34c33); (try clear hczx34c34); (try clear hczx34c35); (try clear hczx34c36); (try clear hczx34c37); (try clear hczza1); (try clear hczza2); (try clear hczza3); (try clear hczza4); (try clear hczza5); (try clear hczza6); (try clear hczza7); (try clear hfzza8); (try clear hfzza9); (try clear hfzza10); (try clear hfzza11); (try clear hfzza12); (try clear hfzza13); (try clear hfzza14); (try clear hfzx34c31); (try clear hfzx34c32); (try clear hfzx34c33); (try clear hfzx34c34); (try clear hfzx34c35); (try clear hfzx34c36)
    (try clear hfzx34c37); (try clear hfzza1); (try clear hfzza2); (try clear hfzza3); (try clear hfzza4); (try clear hfzza5); (try clear hfzza6); (try clear hfzza7)
    obtain ⟨kq, x8_3, rfl, HA, HJ3, BK101, HB⟩ := hcut
    cases kq with
    | zero => exact absurd HA.out (by simp [aircraft_Check.j0])
    | succ kj3 =>
     have H := HA.out
     clear HA
     simp only [aircraft_Check.j0] at H
     by_cases c11 : x8_3 = true
     · subst c11
       have H1 : (some 1) = some r := by rw [if_pos rfl] at H; exact H
       clear H
       have H := H1
       clear H1
       obtain rfl := Option.some.inj H
       go_wp2
       go_ret
       exact ⟨by first | rfl | (simp [errW_none, errW_some] <;> rfl) | (simp [*, errW_none, errW_some] <;> rfl), by repeat (first | (with_reducible first | exact HB.out | apply below_alloc | apply pw_below_drewN | apply below_drew1 | refine below_set ?_ GE101.out) | exact HB.out)⟩
     · replace c11 := Bool.eq_false_iff.mpr c11
       subst c11
       have H1 : (if a0_2 < 1 then (aircraft_Check.j1 kj3 true a0_0 a0_1 a0_2 a0_3 a0_4 a0_5 a0_6) else (aircraft_Check.j1 kj3 (decide (a0_2 > 60000)) a0_0 a0_1 a0_2 a0_3 a0_4 a0_5 a0_6)) = some r := by rw [if_neg (show ¬ (false = true) by decide)] at H; exact H
       clear H
       have H := H1
       clear H1
       have HC12 := Aside0.mk H
       clear H
       go_upto_region 5 with (fail)
       go_cut [17] (fun v17 wc => ∃ (kq : Nat) (x17_11 : Bool), v17 = .bool x17_11 ∧ Aside0 (aircraft_Check.j1 kq x17_11 a0_0 a0_1 a0_2 a0_3 a0_4 a0_5 a0_6 = some r) ∧ Aside0 (kq ≤ kj3) ∧ Aside0 (wc.heap[gb101]? = some (.cells #[.string a0_0, .int .i64 a0_1, .int .i64 a0_2, .int .i64 a0_3, .int .i64 a0_4, .int .i64 a0_5, .int .i64 a0_6] 23 (0, 0))) ∧ Aside0 (Below w.heap.size w wc))
       case first =>
        have H := HC12.out
        clear HC12
        refine Or.elim (Classical.em (a0_2 < 1)) (fun c13 => ?p4_) (fun c13 => ?n4_)
        case' p4_ =>
         rw [if_pos c13] at H
         have c13b0 : decide (a0_2 < 1) = true := decide_eq_true c13
         clear c13
         (first | rw [c13b0] | (simp only [i64_w, i32_w]; rw [c13b0]) | skip)
        case' n4_ =>
         rw [if_neg c13] at H
         have c13b0 : decide (a0_2 < 1) = false := decide_eq_false c13
         clear c13
         (first | rw [c13b0] | (simp only [i64_w, i32_w]; rw [c13b0]) | skip)
        all_goals
         have H' := Aside0.mk H
         clear H
         have hczzd1 : wc.cell? ⟨gb101, 0, none⟩ = some (.string a0_0) := (blk_cell BK101.out 0).trans rfl
         have hczzd2 : wc.cell? ⟨gb101, 1, none⟩ = some (.int .i64 a0_1) := (blk_cell BK101.out 1).trans rfl
         have hczzd3 : wc.cell? ⟨gb101, 2, none⟩ = some (.int .i64 a0_2) := (blk_cell BK101.out 2).trans rfl
         have hczzd4 : wc.cell? ⟨gb101, 3, none⟩ = some (.int .i64 a0_3) := (blk_cell BK101.out 3).trans rfl
         have hczzd5 : wc.cell? ⟨gb101, 4, none⟩ = some (.int .i64 a0_4) := (blk_cell BK101.out 4).trans rfl
         have hczzd6 : wc.cell? ⟨gb101, 5, none⟩ = some (.int .i64 a0_5) := (blk_cell BK101.out 5).trans rfl
         have hczzd7 : wc.cell? ⟨gb101, 6, none⟩ = some (.int .i64 a0_6) := (blk_cell BK101.out 6).trans rfl
         have hfzzd1 := blk_frozen BK101.out 0
         have hfzzd2 := blk_frozen BK101.out 1
         have hfzzd3 := blk_frozen BK101.out 2
         have hfzzd4 := blk_frozen BK101.out 3
         have hfzzd5 := blk_frozen BK101.out 4
         have hfzzd6 := blk_frozen BK101.out 5
         have hfzzd7 := blk_frozen BK101.out 6
         go_wp2
         go_meet
         case rel => first | (exact ⟨_, (true), (by first | rfl | (simp; done) | (simp [*]; done)), H', ⟨by have := HJ3.out; first | omega | exact Nat.le_refl _⟩, ⟨by (with_reducible repeat (first | refine blk_drewN ?_ _ | refine blk_drew ?_ | refine blk_alloc ?_ _)); exact BK101.out⟩, ⟨by repeat (first | (with_reducible first | exact HB.out | apply below_alloc | apply pw_below_drewN | apply below_drew1 | refine below_set ?_ GE101.out) | exact HB.out)⟩⟩) | (exact ⟨_, (decide (a0_2 > 60000)), (by first | rfl | (simp; done) | (simp [*]; done)), H', ⟨by have := HJ3.out; first | omega | exact Nat.le_refl _⟩, ⟨by (with_reducible repeat (first | refine blk_drewN ?_ _ | refine blk_drew ?_ | refine blk_alloc ?_ _)); exact BK101.out⟩, ⟨by repeat (first | (with_reducible first | exact HB.out | apply below_alloc | apply pw_below_drewN | apply below_drew1 | refine below_set ?_ GE101.out) | exact HB.out)⟩⟩)
       case rest =>
        clear HC12
        (try clear c1); (try clear c2); (try clear p2); (try clear c3); (try clear c8); (try clear c8b0); (try clear c11); (try clear c13); (try clear c13b0); (try clear c14); (try clear hczzc15); (try clear hczzc16); (try clear hczzc17); (try clear hczzc18); (try clear hczzc19); (try clear hczzc20); (try clear hczzc21); (try clear hczzc1); (try clear hczzc2); (try clear hczzc3); (try clear hczzc4); (try clear hczzc5); (try clear hczzc6); (try clear hczzc7); (try clear hczzc8); (try clear hczzc9); (try clear hczzc10); (try clear hczzc11); (try clear hczzc12); (try clear hczzc13); (try clear hczzc14); (try clear hczx34c31); (try clear hczx34c32); (try clear hczx34c33); (try clear hczx34c34); (try clear hczx34c35); (try clear hczx34c36); (try clear hczx34c37); (try clear hczzc22); (try clear hczzc23)
        (try clear hczzc24); (try clear hczzc25); (try clear hczzc26); (try clear hczzc27); (try clear hczzc28); (try clear hfzzc15); (try clear hfzzc16); (try clear hfzzc17); (try clear hfzzc18); (try clear hfzzc19); (try clear hfzzc20); (try clear hfzzc21); (try clear hfzzc1); (try clear hfzzc2); (try clear hfzzc3); (try clear hfzzc4); (try clear hfzzc5); (try clear hfzzc6); (try clear hfzzc7); (try clear hfzzc8); (try clear hfzzc9); (try clear hfzzc10); (try clear hfzzc11); (try clear hfzzc12); (try clear hfzzc13); (try clear hfzzc14); (try clear hfzx34c31); (try clear hfzx34c32); (try clear hfzx34c33); (try clear hfzx34c34); (try clear hfzx34c35); (try clear hfzx34c36); (try clear hfzx34c37); (try clear hfzzc22); (try clear hfzzc23); (try clear hfzzc24); (try clear hfzzc25); (try clear hfzzc26); (try clear hfzzc27); (try clear hfzzc28)
        (try clear p2)
        obtain ⟨kq, x17_11, rfl, HA, HJ11, BK101, HB⟩ := hcut
        cases kq with
        | zero => exact absurd HA.out (by simp [aircraft_Check.j1])
        | succ kj11 =>
         have H := HA.out
         clear HA
         simp only [aircraft_Check.j1] at H
         have HC16 := Aside0.mk H
         clear H
         go_upto_if 17 with (fail)
         go_cut [17] (fun v17 wc => ∃ (kq : Nat) (x17_15 : Bool), v17 = .bool x17_15 ∧ Aside0 (aircraft_Check.j2 kq x17_15 a0_0 a0_1 a0_2 a0_3 a0_4 a0_5 a0_6 = some r) ∧ Aside0 (kq ≤ kj11) ∧ Aside0 (wc.heap[gb101]? = some (.cells #[.string a0_0, .int .i64 a0_1, .int .i64 a0_2, .int .i64 a0_3, .int .i64 a0_4, .int .i64 a0_5, .int .i64 a0_6] 23 (0, 0))) ∧ Aside0 (Below w.heap.size w wc))
         case first =>
          have H := HC16.out
          clear HC16
          refine Or.elim (Classical.em (x17_11 = true)) (fun c17 => ?p6_) (fun c17 => ?n6_)
          case' p6_ =>
           subst c17
           have H1 : (aircraft_Check.j2 kj11 true a0_0 a0_1 a0_2 a0_3 a0_4 a0_5 a0_6) = some r := by rw [if_pos rfl] at H; exact H
           clear H
           have H := H1
           clear H1
           have hm5_0 := Aside0.mk trivial
          case' n6_ =>
           replace c17 := Bool.eq_false_iff.mpr c17
           subst c17
           have H1 : (if a0_3 < 1 then (aircraft_Check.j2 kj11 true a0_0 a0_1 a0_2 a0_3 a0_4 a0_5 a0_6) else (if a0_3 > 200 then (aircraft_Check.j2 kj11 (decide (a0_3 > 200)) a0_0 a0_1 a0_2 a0_3 a0_4 a0_5 a0_6) else (if a0_4 < 1 then (aircraft_Check.j2 kj11 true a0_0 a0_1 a0_2 a0_3 a0_4 a0_5 a0_6) else (aircraft_Check.j2 kj11 (decide (a0_4 > 200)) a0_0 a0_1 a0_2 a0_3 a0_4 a0_5 a0_6)))) = some r := by rw [if_neg (show ¬ (false = true) by decide)] at H; exact H
           clear H
           have H := H1
           clear H1
           refine Or.elim (Classical.em (a0_3 < 1)) (fun c18 => ?p7_) (fun c18 => ?n7_)
           case' p7_ =>
            rw [if_pos c18] at H
            have c18b0 : decide (a0_3 < 1) = true := decide_eq_true c18
            clear c18
            (first | rw [c18b0] | (simp only [i64_w, i32_w]; rw [c18b0]) | skip)
            have hm5_1 := Aside0.mk trivial
           case' n7_ =>
            rw [if_neg c18] at H
            have c18b0 : decide (a0_3 < 1) = false := decide_eq_false c18
            clear c18
            (first | rw [c18b0] | (simp only [i64_w, i32_w]; rw [c18b0]) | skip)
            refine Or.elim (Classical.em (a0_3 > 200)) (fun c20 => ?p8_) (fun c20 => ?n8_)
            case' p8_ =>
             rw [if_pos c20] at H
             have c20b0 : decide (200 < a0_3) = true := decide_eq_true c20
             clear c20
             have hm5_1 := Aside0.mk trivial
            case' n8_ =>
             rw [if_neg c20] at H
             have c20b0 : decide (200 < a0_3) = false := decide_eq_false c20
             clear c20
             refine Or.elim (Classical.em (a0_4 < 1)) (fun c22 => ?p9_) (fun c22 => ?n9_)
             case' p9_ =>
              rw [if_pos c22] at H
              have c22b0 : decide (a0_4 < 1) = true := decide_eq_true c22
              clear c22
              have hm5_1 := Aside0.mk trivial
             case' n9_ =>
              rw [if_neg c22] at H
              have c22b0 : decide (a0_4 < 1) = false := decide_eq_false c22
              clear c22
              have hm5_1 := Aside0.mk trivial
          all_goals
           have H' := Aside0.mk H
           clear H
           first
            | clear hm5_0
              go_wp2
              go_meet
              case rel => exact ⟨_, (true), (by first | rfl | (simp; done) | (simp [*]; done)), H', ⟨by have := HJ3.out; have := HJ11.out; first | omega | exact Nat.le_refl _⟩, ⟨by (with_reducible repeat (first | refine blk_drewN ?_ _ | refine blk_drew ?_ | refine blk_alloc ?_ _)); exact BK101.out⟩, ⟨by repeat (first | (with_reducible first | exact HB.out | apply below_alloc | apply pw_below_drewN | apply below_drew1 | refine below_set ?_ GE101.out) | exact HB.out)⟩⟩
            | clear hm5_1
              have hczzf1 : wc.cell? ⟨gb101, 0, none⟩ = some (.string a0_0) := (blk_cell BK101.out 0).trans rfl
              have hczzf2 : wc.cell? ⟨gb101, 1, none⟩ = some (.int .i64 a0_1) := (blk_cell BK101.out 1).trans rfl
              have hczzf3 : wc.cell? ⟨gb101, 2, none⟩ = some (.int .i64 a0_2) := (blk_cell BK101.out 2).trans rfl
              have hczzf4 : wc.cell? ⟨gb101, 3, none⟩ = some (.int .i64 a0_3) := (blk_cell BK101.out 3).trans rfl
              have hczzf5 : wc.cell? ⟨gb101, 4, none⟩ = some (.int .i64 a0_4) := (blk_cell BK101.out 4).trans rfl
              have hczzf6 : wc.cell? ⟨gb101, 5, none⟩ = some (.int .i64 a0_5) := (blk_cell BK101.out 5).trans rfl
              have hczzf7 : wc.cell? ⟨gb101, 6, none⟩ = some (.int .i64 a0_6) := (blk_cell BK101.out 6).trans rfl
              have hfzzf1 := blk_frozen BK101.out 0
              have hfzzf2 := blk_frozen BK101.out 1
              have hfzzf3 := blk_frozen BK101.out 2
              have hfzzf4 := blk_frozen BK101.out 3
              have hfzzf5 := blk_frozen BK101.out 4
              have hfzzf6 := blk_frozen BK101.out 5
              have hfzzf7 := blk_frozen BK101.out 6
              go_wp2
              go_meet
              case rel => first | (exact ⟨_, (true), (by first | rfl | (simp; done) | (simp [*]; done)), H', ⟨by have := HJ3.out; have := HJ11.out; first | omega | exact Nat.le_refl _⟩, ⟨by (with_reducible repeat (first | refine blk_drewN ?_ _ | refine blk_drew ?_ | refine blk_alloc ?_ _)); exact BK101.out⟩, ⟨by repeat (first | (with_reducible first | exact HB.out | apply below_alloc | apply pw_below_drewN | apply below_drew1 | refine below_set ?_ GE101.out) | exact HB.out)⟩⟩) | (exact ⟨_, (decide (a0_3 > 200)), (by first | rfl | (simp; done) | (simp [*]; done)), H', ⟨by have := HJ3.out; have := HJ11.out; first | omega | exact Nat.le_refl _⟩, ⟨by (with_reducible repeat (first | refine blk_drewN ?_ _ | refine blk_drew ?_ | refine blk_alloc ?_ _)); exact BK101.out⟩, ⟨by repeat (first | (with_reducible first | exact HB.out | apply below_alloc | apply pw_below_drewN | apply below_drew1 | refine below_set ?_ GE101.out) | exact HB.out)⟩⟩) | (exact ⟨_, (decide (a0_4 > 200)), (by first | rfl | (simp; done) | (simp [*]; done)), H', ⟨by have := HJ3.out; have := HJ11.out; first | omega | exact Nat.le_refl _⟩, ⟨by (with_reducible repeat (first | refine blk_drewN ?_ _ | refine blk_drew ?_ | refine blk_alloc ?_ _)); exact BK101.out⟩, ⟨by repeat (first | (with_reducible first | exact HB.out | apply below_alloc | apply pw_below_drewN | apply below_drew1 | refine below_set ?_ GE101.out) | exact HB.out)⟩⟩)
         case rest =>
          clear HC16
          (try clear c1); (try clear c2); (try clear p2); (try clear c3); (try clear c8); (try clear c8b0); (try clear c11); (try clear c13); (try clear c13b0); (try clear c14); (try clear c17); (try clear c18); (try clear c18b0); (try clear c20); (try clear c20b0); (try clear c22); (try clear c22b0); (try clear hczzc15); (try clear hczzc16); (try clear hczzc17); (try clear hczzc18); (try clear hczzc19); (try clear hczzc20); (try clear hczzc21); (try clear hczzc1); (try clear hczzc2); (try clear hczzc3); (try clear hczzc4); (try clear hczzc5); (try clear hczzc6); (try clear hczzc7); (try clear hczzc8); (try clear hczzc9); (try clear hczzc10); (try clear hczzc11); (try clear hczzc12); (try clear hczzc13); (try clear hczzc14); (try clear hczzc29); (try clear hczzc30)
          (try clear hczzc31); (try clear hczzc32); (try clear hczzc33); (try clear hczzc34); (try clear hczzc35); (try clear hczzc36); (try clear hczzc37); (try clear hczzc38); (try clear hczzc39); (try clear hczzc40); (try clear hczzc41); (try clear hczzc42); (try clear hczzc43); (try clear hczzc44); (try clear hczzc45); (try clear hczzc46); (try clear hczzc47); (try clear hczzc48); (try clear hczzc49); (try clear hczzc50); (try clear hczzc51); (try clear hczzc52); (try clear hczzc53); (try clear hczzc54); (try clear hczzc55); (try clear hczzc56); (try clear hczx34c31); (try clear hczx34c32); (try clear hczx34c33); (try clear hczx34c34); (try clear hczx34c35); (try clear hczx34c36); (try clear hczx34c37); (try clear hczzc22); (try clear hczzc23); (try clear hczzc24); (try clear hczzc25); (try clear hczzc26); (try clear hczzc27); (try clear hczzc28)
          (try clear hfzzc15); (try clear hfzzc16); (try clear hfzzc17); (try clear hfzzc18); (try clear hfzzc19); (try clear hfzzc20); (try clear hfzzc21); (try clear hfzzc1); (try clear hfzzc2); (try clear hfzzc3); (try clear hfzzc4); (try clear hfzzc5); (try clear hfzzc6); (try clear hfzzc7); (try clear hfzzc8); (try clear hfzzc9); (try clear hfzzc10); (try clear hfzzc11); (try clear hfzzc12); (try clear hfzzc13); (try clear hfzzc14); (try clear hfzzc29); (try clear hfzzc30); (try clear hfzzc31); (try clear hfzzc32); (try clear hfzzc33); (try clear hfzzc34); (try clear hfzzc35); (try clear hfzzc36); (try clear hfzzc37); (try clear hfzzc38); (try clear hfzzc39); (try clear hfzzc40); (try clear hfzzc41); (try clear hfzzc42); (try clear hfzzc43); (try clear hfzzc44); (try clear hfzzc45); (try clear hfzzc46); (try clear hfzzc47)
          (try clear hfzzc48); (try clear hfzzc49); (try clear hfzzc50); (try clear hfzzc51); (try clear hfzzc52); (try clear hfzzc53); (try clear hfzzc54); (try clear hfzzc55); (try clear hfzzc56); (try clear hfzx34c31); (try clear hfzx34c32); (try clear hfzx34c33); (try clear hfzx34c34); (try clear hfzx34c35); (try clear hfzx34c36); (try clear hfzx34c37); (try clear hfzzc22); (try clear hfzzc23); (try clear hfzzc24); (try clear hfzzc25); (try clear hfzzc26); (try clear hfzzc27); (try clear hfzzc28); (try clear p2)
          obtain ⟨kq, x17_15, rfl, HA, HJ15, BK101, HB⟩ := hcut
          cases kq with
          | zero => exact absurd HA.out (by simp [aircraft_Check.j2])
          | succ kj15 =>
           have H := HA.out
           clear HA
           simp only [aircraft_Check.j2] at H
           by_cases c25 : x17_15 = true
           · subst c25
             have H1 : (some 4) = some r := by rw [if_pos rfl] at H; exact H
             clear H
             have H := H1
             clear H1
             obtain rfl := Option.some.inj H
             go_wp2
             go_ret
             exact ⟨by first | rfl | (simp [errW_none, errW_some] <;> rfl) | (simp [*, errW_none, errW_some] <;> rfl), by repeat (first | (with_reducible first | exact HB.out | apply below_alloc | apply pw_below_drewN | apply below_drew1 | refine below_set ?_ GE101.out) | exact HB.out)⟩
           · replace c25 := Bool.eq_false_iff.mpr c25
             subst c25
             have H1 : (if a0_5 < 1 then (aircraft_Check.j3 kj15 true a0_0 a0_1 a0_2 a0_3 a0_4 a0_5 a0_6) else (if a0_5 > 400 then (aircraft_Check.j3 kj15 true a0_0 a0_1 a0_2 a0_3 a0_4 a0_5 a0_6) else (if a0_6 < 1 then (aircraft_Check.j3 kj15 true a0_0 a0_1 a0_2 a0_3 a0_4 a0_5 a0_6) else (aircraft_Check.j3 kj15 (decide (a0_6 > 400)) a0_0 a0_1 a0_2 a0_3 a0_4 a0_5 a0_6)))) = some r := by rw [if_neg (show ¬ (false = true) by decide)] at H; exact H
             clear H
             have H := H1
             clear H1
             have HC26 := Aside0.mk H
             clear H
             go_upto_region 9 with (fail)
             go_cut [42] (fun v42 wc => ∃ (kq : Nat) (x42_25 : Bool), v42 = .bool x42_25 ∧ Aside0 (aircraft_Check.j3 kq x42_25 a0_0 a0_1 a0_2 a0_3 a0_4 a0_5 a0_6 = some r) ∧ Aside0 (kq ≤ kj15) ∧ Aside0 (wc.heap[gb101]? = some (.cells #[.string a0_0, .int .i64 a0_1, .int .i64 a0_2, .int .i64 a0_3, .int .i64 a0_4, .int .i64 a0_5, .int .i64 a0_6] 23 (0, 0))) ∧ Aside0 (Below w.heap.size w wc))
             case first =>
              have H := HC26.out
              clear HC26
              refine Or.elim (Classical.em (a0_5 < 1)) (fun c27 => ?p11_) (fun c27 => ?n11_)
              case' p11_ =>
               rw [if_pos c27] at H
               have c27b0 : decide (a0_5 < 1) = true := decide_eq_true c27
               clear c27
               (first | rw [c27b0] | (simp only [i64_w, i32_w]; rw [c27b0]) | skip)
              case' n11_ =>
               rw [if_neg c27] at H
               have c27b0 : decide (a0_5 < 1) = false := decide_eq_false c27
               clear c27
               (first | rw [c27b0] | (simp only [i64_w, i32_w]; rw [c27b0]) | skip)
               refine Or.elim (Classical.em (a0_5 > 400)) (fun c29 => ?p12_) (fun c29 => ?n12_)
               case' p12_ =>
                rw [if_pos c29] at H
                have c29b0 : decide (400 < a0_5) = true := decide_eq_true c29
                clear c29
               case' n12_ =>
                rw [if_neg c29] at H
                have c29b0 : decide (400 < a0_5) = false := decide_eq_false c29
                clear c29
                refine Or.elim (Classical.em (a0_6 < 1)) (fun c31 => ?p13_) (fun c31 => ?n13_)
                case' p13_ =>
                 rw [if_pos c31] at H
                 have c31b0 : decide (a0_6 < 1) = true := decide_eq_true c31
                 clear c31
                case' n13_ =>
                 rw [if_neg c31] at H
                 have c31b0 : decide (a0_6 < 1) = false := decide_eq_false c31
                 clear c31
              all_goals
               have H' := Aside0.mk H
               clear H
               have hczzh1 : wc.cell? ⟨gb101, 0, none⟩ = some (.string a0_0) := (blk_cell BK101.out 0).trans rfl
               have hczzh2 : wc.cell? ⟨gb101, 1, none⟩ = some (.int .i64 a0_1) := (blk_cell BK101.out 1).trans rfl
               have hczzh3 : wc.cell? ⟨gb101, 2, none⟩ = some (.int .i64 a0_2) := (blk_cell BK101.out 2).trans rfl
               have hczzh4 : wc.cell? ⟨gb101, 3, none⟩ = some (.int .i64 a0_3) := (blk_cell BK101.out 3).trans rfl
               have hczzh5 : wc.cell? ⟨gb101, 4, none⟩ = some (.int .i64 a0_4) := (blk_cell BK101.out 4).trans rfl
               have hczzh6 : wc.cell? ⟨gb101, 5, none⟩ = some (.int .i64 a0_5) := (blk_cell BK101.out 5).trans rfl
               have hczzh7 : wc.cell? ⟨gb101, 6, none⟩ = some (.int .i64 a0_6) := (blk_cell BK101.out 6).trans rfl
               have hfzzh1 := blk_frozen BK101.out 0
               have hfzzh2 := blk_frozen BK101.out 1
               have hfzzh3 := blk_frozen BK101.out 2
               have hfzzh4 := blk_frozen BK101.out 3
               have hfzzh5 := blk_frozen BK101.out 4
               have hfzzh6 := blk_frozen BK101.out 5
               have hfzzh7 := blk_frozen BK101.out 6
               go_wp2
               go_meet
               case rel => first | (exact ⟨_, (true), (by first | rfl | (simp; done) | (simp [*]; done)), H', ⟨by have := HJ3.out; have := HJ11.out; have := HJ15.out; first | omega | exact Nat.le_refl _⟩, ⟨by (with_reducible repeat (first | refine blk_drewN ?_ _ | refine blk_drew ?_ | refine blk_alloc ?_ _)); exact BK101.out⟩, ⟨by repeat (first | (with_reducible first | exact HB.out | apply below_alloc | apply pw_below_drewN | apply below_drew1 | refine below_set ?_ GE101.out) | exact HB.out)⟩⟩) | (exact ⟨_, (decide (a0_6 > 400)), (by first | rfl | (simp; done) | (simp [*]; done)), H', ⟨by have := HJ3.out; have := HJ11.out; have := HJ15.out; first | omega | exact Nat.le_refl _⟩, ⟨by (with_reducible repeat (first | refine blk_drewN ?_ _ | refine blk_drew ?_ | refine blk_alloc ?_ _)); exact BK101.out⟩, ⟨by repeat (first | (with_reducible first | exact HB.out | apply below_alloc | apply pw_below_drewN | apply below_drew1 | refine below_set ?_ GE101.out) | exact HB.out)⟩⟩)
             case rest =>
              clear HC26
              (try clear c1); (try clear c2); (try clear p2); (try clear c3); (try clear c8); (try clear c8b0); (try clear c11); (try clear c13); (try clear c13b0); (try clear c14); (try clear c17); (try clear c18); (try clear c18b0); (try clear c20); (try clear c20b0); (try clear c22); (try clear c22b0); (try clear c25); (try clear c27); (try clear c27b0); (try clear c29); (try clear c29b0); (try clear c31); (try clear c31b0); (try clear hczzg29); (try clear hczzg30); (try clear hczzg31); (try clear hczzg32); (try clear hczzg33); (try clear hczzg34); (try clear hczzg35); (try clear hczzg36); (try clear hczzg37); (try clear hczzg38); (try clear hczzg39); (try clear hczzg40); (try clear hczzg41); (try clear hczzg42); (try clear hczzg43); (try clear hczzg44)
              (try clear hczzg45); (try clear hczzg46); (try clear hczzg47); (try clear hczzg48); (try clear hczzg49); (try clear hczzg50); (try clear hczzg51); (try clear hczzg52); (try clear hczzg53); (try clear hczzg54); (try clear hczzg55); (try clear hczzg56); (try clear hczzg57); (try clear hczzg58); (try clear hczzg59); (try clear hczzg60); (try clear hczzg61); (try clear hczzg62); (try clear hczzg63); (try clear hczzg64); (try clear hczzg65); (try clear hczzg66); (try clear hczzg67); (try clear hczzg68); (try clear hczzg69); (try clear hczzg70); (try clear hczzg71); (try clear hczzg72); (try clear hczzg73); (try clear hczzg74); (try clear hczzg75); (try clear hczzg76); (try clear hczzg77); (try clear hczzg1); (try clear hczzg2); (try clear hczzg3); (try clear hczzg4); (try clear hczzg5); (try clear hczzg6); (try clear hczzg7)
              (try clear hczzg8); (try clear hczzg9); (try clear hczzg10); (try clear hczzg11); (try clear hczzg12); (try clear hczzg13); (try clear hczzg14); (try clear hczzg15); (try clear hczzg16); (try clear hczzg17); (try clear hczzg18); (try clear hczzg19); (try clear hczzg20); (try clear hczzg21); (try clear hczzg22); (try clear hczzg23); (try clear hczzg24); (try clear hczzg25); (try clear hczzg26); (try clear hczzg27); (try clear hczzg28); (try clear hczx34c31); (try clear hczx34c32); (try clear hczx34c33); (try clear hczx34c34); (try clear hczx34c35); (try clear hczx34c36); (try clear hczx34c37); (try clear hczzg78); (try clear hczzg79); (try clear hczzg80); (try clear hczzg81); (try clear hczzg82); (try clear hczzg83); (try clear hczzg84); (try clear hfzzg29); (try clear hfzzg30); (try clear hfzzg31); (try clear hfzzg32); (try clear hfzzg33)
              (try clear hfzzg34); (try clear hfzzg35); (try clear hfzzg36); (try clear hfzzg37); (try clear hfzzg38); (try clear hfzzg39); (try clear hfzzg40); (try clear hfzzg41); (try clear hfzzg42); (try clear hfzzg43); (try clear hfzzg44); (try clear hfzzg45); (try clear hfzzg46); (try clear hfzzg47); (try clear hfzzg48); (try clear hfzzg49); (try clear hfzzg50); (try clear hfzzg51); (try clear hfzzg52); (try clear hfzzg53); (try clear hfzzg54); (try clear hfzzg55); (try clear hfzzg56); (try clear hfzzg57); (try clear hfzzg58); (try clear hfzzg59); (try clear hfzzg60); (try clear hfzzg61); (try clear hfzzg62); (try clear hfzzg63); (try clear hfzzg64); (try clear hfzzg65); (try clear hfzzg66); (try clear hfzzg67); (try clear hfzzg68); (try clear hfzzg69); (try clear hfzzg70); (try clear hfzzg71); (try clear hfzzg72); (try clear hfzzg73)
              (try clear hfzzg74); (try clear hfzzg75); (try clear hfzzg76); (try clear hfzzg77); (try clear hfzzg1); (try clear hfzzg2); (try clear hfzzg3); (try clear hfzzg4); (try clear hfzzg5); (try clear hfzzg6); (try clear hfzzg7); (try clear hfzzg8); (try clear hfzzg9); (try clear hfzzg10); (try clear hfzzg11); (try clear hfzzg12); (try clear hfzzg13); (try clear hfzzg14); (try clear hfzzg15); (try clear hfzzg16); (try clear hfzzg17); (try clear hfzzg18); (try clear hfzzg19); (try clear hfzzg20); (try clear hfzzg21); (try clear hfzzg22); (try clear hfzzg23); (try clear hfzzg24); (try clear hfzzg25); (try clear hfzzg26); (try clear hfzzg27); (try clear hfzzg28); (try clear hfzx34c31); (try clear hfzx34c32); (try clear hfzx34c33); (try clear hfzx34c34); (try clear hfzx34c35); (try clear hfzx34c36); (try clear hfzx34c37); (try clear hfzzg78)
              (try clear hfzzg79); (try clear hfzzg80); (try clear hfzzg81); (try clear hfzzg82); (try clear hfzzg83); (try clear hfzzg84); (try clear p2)
              obtain ⟨kq, x42_25, rfl, HA, HJ25, BK101, HB⟩ := hcut
              cases kq with
              | zero => exact absurd HA.out (by simp [aircraft_Check.j3])
              | succ kj25 =>
               have H := HA.out
               clear HA
               simp only [aircraft_Check.j3] at H
               refine Or.elim (Classical.em (x42_25 = true)) (fun c34 => ?p15_) (fun c34 => ?n15_)
               case' p15_ =>
                subst c34
                have H1 : (some 4) = some r := by rw [if_pos rfl] at H; exact H
                clear H
                have H := H1
                clear H1
                have hm14_0 := Aside0.mk trivial
               case' n15_ =>
                replace c34 := Bool.eq_false_iff.mpr c34
                subst c34
                have H1 : (if a0_5 > a0_6 then (some 3) else (some 0)) = some r := by rw [if_neg (show ¬ (false = true) by decide)] at H; exact H
                clear H
                have H := H1
                clear H1
                refine Or.elim (Classical.em (a0_5 > a0_6)) (fun c35 => ?p16_) (fun c35 => ?n16_)
                case' p16_ =>
                 rw [if_pos c35] at H
                 have c35b0 : decide (a0_6 < a0_5) = true := decide_eq_true c35
                 clear c35
                 have hm14_1 := Aside0.mk trivial
                case' n16_ =>
                 rw [if_neg c35] at H
                 have c35b0 : decide (a0_6 < a0_5) = false := decide_eq_false c35
                 clear c35
                 have hm14_1 := Aside0.mk trivial
               all_goals
                obtain rfl := Option.some.inj H
                first
                 | clear hm14_0
                   go_wp2
                   go_ret
                   exact ⟨by first | rfl | (simp [errW_none, errW_some] <;> rfl) | (simp [*, errW_none, errW_some] <;> rfl), by repeat (first | (with_reducible first | exact HB.out | apply below_alloc | apply pw_below_drewN | apply below_drew1 | refine below_set ?_ GE101.out) | exact HB.out)⟩
                 | clear hm14_1
                   have hczzi1 : wc.cell? ⟨gb101, 0, none⟩ = some (.string a0_0) := (blk_cell BK101.out 0).trans rfl
                   have hczzi2 : wc.cell? ⟨gb101, 1, none⟩ = some (.int .i64 a0_1) := (blk_cell BK101.out 1).trans rfl
                   have hczzi3 : wc.cell? ⟨gb101, 2, none⟩ = some (.int .i64 a0_2) := (blk_cell BK101.out 2).trans rfl
                   have hczzi4 : wc.cell? ⟨gb101, 3, none⟩ = some (.int .i64 a0_3) := (blk_cell BK101.out 3).trans rfl
                   have hczzi5 : wc.cell? ⟨gb101, 4, none⟩ = some (.int .i64 a0_4) := (blk_cell BK101.out 4).trans rfl
                   have hczzi6 : wc.cell? ⟨gb101, 5, none⟩ = some (.int .i64 a0_5) := (blk_cell BK101.out 5).trans rfl
                   have hczzi7 : wc.cell? ⟨gb101, 6, none⟩ = some (.int .i64 a0_6) := (blk_cell BK101.out 6).trans rfl
                   have hfzzi1 := blk_frozen BK101.out 0
                   have hfzzi2 := blk_frozen BK101.out 1
                   have hfzzi3 := blk_frozen BK101.out 2
                   have hfzzi4 := blk_frozen BK101.out 3
                   have hfzzi5 := blk_frozen BK101.out 4
                   have hfzzi6 := blk_frozen BK101.out 5
                   have hfzzi7 := blk_frozen BK101.out 6
                   go_wp2
                   go_ret
                   exact ⟨by first | rfl | (simp [errW_none, errW_some] <;> rfl) | (simp [*, errW_none, errW_some] <;> rfl), by repeat (first | (with_reducible first | exact HB.out | apply below_alloc | apply pw_below_drewN | apply below_drew1 | refine below_set ?_ GE101.out) | exact HB.out)⟩
 · replace c3 := Bool.eq_false_iff.mpr c3
   subst c3
   have H1 : (some 5) = some r := by rw [if_neg (show ¬ (false = true) by decide)] at H; exact H
   clear H
   have H := H1
   clear H1
   obtain rfl := Option.some.inj H
   go_enter Tryd.func14, Tryd.ntmps14
   go_wp2_with (first | ((with_reducible refine gate_dst (N := 1) rfl ?_); refine box_event ?hg (N := 1) ?hd (cs := #[.string a0_0, .int .i64 a0_1, .int .i64 a0_2, .int .i64 a0_3, .int .i64 a0_4, .int .i64 a0_5, .int .i64 a0_6]) (t := 23) ?hr ?_; (case hd => rfl); (case hg => rfl); (case hr => first | (go_simp; done) | (go_simp; rfl)); intro gb101 hg wx34c31 hbox hb; have n0_ := Aside0.mk (below_step (by repeat (first | (with_reducible first | exact HB.out | apply below_alloc | apply pw_below_drewN | apply below_drew1) | exact HB.out)) hb); have n1_ := Aside0.mk (hbox); have n2_ := Aside0.mk ((by rw [hg]; exact (below_size (by repeat (first | (with_reducible first | exact HB.out | apply below_alloc | apply pw_below_drewN | apply below_drew1) | exact HB.out))) : w.heap.size ≤ gb101)); have n3_ := Aside0.mk ((by rw [hg]; exact (below_size (by repeat (first | (with_reducible first | exact HB.out | apply below_alloc | apply pw_below_drewN | apply below_drew1) | exact HB.out))) : w.heap.size ≤ gb101)); clear HB; have HB := n0_; have BK101 := n1_; have GW101 := n2_; have GE101 := n3_; clear n0_ n1_ n2_ n3_; clear hb hbox hg; have hczx34c31 : wx34c31.cell? ⟨gb101, 0, none⟩ = some (.string a0_0) := (blk_cell BK101.out 0).trans rfl; have hczx34c32 : wx34c31.cell? ⟨gb101, 1, none⟩ = some (.int .i64 a0_1) := (blk_cell BK101.out 1).trans rfl; have hczx34c33 : wx34c31.cell? ⟨gb101, 2, none⟩ = some (.int .i64 a0_2) := (blk_cell BK101.out 2).trans rfl; have hczx34c34 : wx34c31.cell? ⟨gb101, 3, none⟩ = some (.int .i64 a0_3) := (blk_cell BK101.out 3).trans rfl; have hczx34c35 : wx34c31.cell? ⟨gb101, 4, none⟩ = some (.int .i64 a0_4) := (blk_cell BK101.out 4).trans rfl; have hczx34c36 : wx34c31.cell? ⟨gb101, 5, none⟩ = some (.int .i64 a0_5) := (blk_cell BK101.out 5).trans rfl; have hczx34c37 : wx34c31.cell? ⟨gb101, 6, none⟩ = some (.int .i64 a0_6) := (blk_cell BK101.out 6).trans rfl; have hfzx34c31 := blk_frozen BK101.out 0; have hfzx34c32 := blk_frozen BK101.out 1; have hfzx34c33 := blk_frozen BK101.out 2; have hfzx34c34 := blk_frozen BK101.out 3; have hfzx34c35 := blk_frozen BK101.out 4; have hfzx34c36 := blk_frozen BK101.out 5; have hfzx34c37 := blk_frozen BK101.out 6) | ((with_reducible refine gate_callee (f := 29) rfl ?_); refine goesL_ (some 6) rfl rfl Tryd.func29 (by kernel_rfl) rfl #[.string a0_0] rfl (by (try simp only [List.map_toArray, List.map_cons, List.map_nil]); first | done | rfl | (simp only [List.length_drop, List.length_take]; rfl)) ?_; (with_reducible refine (chart_Name.calls k a0_0 false _ A2.out).mono ?_); rintro e wxf8541 ⟨rfl, hb⟩; refine ⟨_, rfl, ?_⟩; have n0_ := Aside0.mk (blk_below (g := gb101) (o := .cells #[.string a0_0, .int .i64 a0_1, .int .i64 a0_2, .int .i64 a0_3, .int .i64 a0_4, .int .i64 a0_5, .int .i64 a0_6] 23 (0, 0)) (by (with_reducible repeat (first | refine blk_drewN ?_ _ | refine blk_drew ?_ | refine blk_alloc ?_ _)); exact BK101.out) hb); have n1_ := Aside0.mk (below_step (by repeat (first | (with_reducible first | exact HB.out | apply below_alloc | apply pw_below_drewN | apply below_drew1 | refine below_set ?_ GE101.out) | exact HB.out)) hb); clear BK101; clear HB; have BK101 := n0_; have HB := n1_; clear n0_ n1_; (try clear hb); (try clear hb2); (try clear hk); (try clear hi)))
   go_ret
   exact ⟨by first | rfl | (simp [errW_none, errW_some] <;> rfl) | (simp [*, errW_none, errW_some] <;> rfl), by repeat (first | (with_reducible first | exact HB.out | apply below_alloc | apply pw_below_drewN | apply below_drew1 | refine below_set ?_ GE101.out) | exact HB.out)⟩

end Go.Proofs.YtfchcleochphoaaDoor.PAircraftReach
