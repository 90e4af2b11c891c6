/- Made by a program of this session (wip/tools/myprint.py, over the kit's printer): that the Go functions answer as the Lean functions printed beside them. -/
import Derived.Test.YthpbpdobghceeaaDoorPWindLegsx0
import Derived.Test.YthpbpdobghceeaaDoorPWindLegsx1
import Derived.Test.YthpbpdobghceeaaDoorPWindLegsx2
import Derived.Test.YthpbpdobghceeaaDoorPWindLegsx6
namespace Go.Proofs.YthpbpdobghceeaaDoor.PWindLegs
open Go.RowKit Go.Proofs.YthpbpdobghceeaaDoorW.PrintWords Go.Proofs.YthpbpdobghceeaaDoorW.PrintLast Go.Proofs.YthpbpdobghceeaaDoorW.PrintMore
attribute [local go_sem] max2_int min2_int max_two min_two max_three min_three max_four min_four   -- for this text's walks alone
set_option linter.unusedVariables false
set_option linter.unusedSimpArgs false

attribute [local go_sem high] eqA28
/-! ### skywaykeep1_WindLegs: function 9 -/
def skywaykeep1_WindLegs.f (k : Nat) (l0 : List (S38)) (a1 : Int) (a2 : Int) (a3_0 : Int) (a3_1 : Int) (a4_0 : Int) (a4_1 : Int) : Option (Bool) := (skywaykeep1_windWorks.f k).bind fun t182 => (if t182 = true then ((wind_Leg.f k l0 a1 a2 a3_0 a3_1 a4_0 a4_1).bind fun bt183 => (if bt183.2.2 = 0 then ((plane_Distance.f a3_0 a3_1 a4_0 a4_1).bind fun bt186 => ((wind_At.f k l0 a2).bind fun bt188 => (if (a3_0 == a4_0 && (a3_1 == a4_1)) = true then (if bt188.2.2.2.2.2 = 0 then (if bt183.1 = 0 then (some (bt183.2.1 == 0)) else (some false)) else (some false)) else (if bt188.2.2.2.2.2 = 0 then (if bt183.1 ≤ bt183.2.1 then (if (wrap64 (bt183.1 * (wrap64 (a1 + 500)))) ≥ (wrap64 ((wrap64 (bt186.1 - a1)) - 500)) then (if (wrap64 (a1 + 500)) = 0 then (none) else (if bt183.2.1 ≥ (wrap64 (Int.tdiv bt186.2 (wrap64 (a1 + 500)))) then (if (!(bt188.2.2.1 == 0) || (!(bt188.2.2.2.1 == 0))) = true then (some true) else (if bt188.2.2.2.2.1 = 0 then (if a1 = 0 then (none) else (if bt183.1 = (wrap64 (Int.tdiv bt186.1 a1)) then (some (bt183.2.1 == (wrap64 (Int.tdiv (wrap64 ((wrap64 (bt186.2 + a1)) - 1)) a1)))) else (some false))) else (some true))) else (some false))) else (some false)) else (some false)) else (some false))))) else (if bt183.1 = 0 then (some (bt183.2.1 == 0)) else (some false)))) else (some false))
theorem skywaykeep1_WindLegs.mono : ∀ a0 a1 a2 a3 a4 a5 a6 k, LeO (skywaykeep1_WindLegs.f k a0 a1 a2 a3 a4 a5 a6) (skywaykeep1_WindLegs.f (k + 1) a0 a1 a2 a3 a4 a5 a6) := by
  intro a0 a1 a2 a3 a4 a5 a6 k
  unfold skywaykeep1_WindLegs.f
  repeat' first
      | (with_reducible exact skywaykeep1_windWorks.mono _)
      | (with_reducible exact wind_At.mono _ _ _)
      | (with_reducible exact wind_Leg.mono _ _ _ _ _ _ _ _)
      | (with_reducible exact LeO.refl _)
      | (with_reducible exact LeO.none _)
      | (with_reducible refine LeO.ite ?_ ?_)
      | (with_reducible refine LeO.bind ?_ (fun _ => ?_))
      | exact skywaykeep1_windWorks.mono _
      | exact wind_At.mono _ _ _
      | exact wind_Leg.mono _ _ _ _ _ _ _ _
      | exact LeO.none _
      | refine LeO.ite ?_ ?_
      | refine LeO.bind ?_ (fun _ => ?_)
set_option maxHeartbeats 8000000 in
set_option maxRecDepth 100000 in
theorem skywaykeep1_WindLegs.calls (k : Nat) (A0 : Option Addr) (c0 : Nat) (l0 : List (S38)) (a1 : Int) (a2 : Int) (a3_0 : Int) (a3_1 : Int) (a4_0 : Int) (a4_1 : Int) (r : Bool) (w : World) (hr0 : Kd.C k38 w A0 l0.length l0) (hc0 : l0.length ≤ c0) (h : skywaykeep1_WindLegs.f k l0 a1 a2 a3_0 a3_1 a4_0 a4_1 = some r) (hT0 : Ang.Tab w := by exact Ang.Tab.below hT0 (by repeat (first | (with_reducible first | exact HB.out | apply below_alloc | apply pw_below_drewN | apply below_drew1) | exact HB.out | (refine Below.setCell ?_ (by dsimp only; exact Aside0.out (by assumption)) _)))) :
    Calls Tryd.prog 9 #[.slice A0 l0.length c0, .int .i64 a1, .int .i64 a2, .agg #[.int .i64 a3_0, .int .i64 a3_1], .agg #[.int .i64 a4_0, .int .i64 a4_1]] w fun e w' => e = .returned (.bool r) ∧ Below w.heap.size w w' := by
 have hu28 := Tryd.underlying28
 have hu38 := Tryd.underlying38
 have HR0 := Aside0.mk hr0
 have HC0 := Aside0.mk hc0
 clear hr0 hc0
 have HB := Aside0.mk (Below.refl w.heap.size w)
 have H : ((skywaykeep1_windWorks.f k).bind fun t182 => (if t182 = true then ((wind_Leg.f k l0 a1 a2 a3_0 a3_1 a4_0 a4_1).bind fun bt183 => (if bt183.2.2 = 0 then ((plane_Distance.f a3_0 a3_1 a4_0 a4_1).bind fun bt186 => ((wind_At.f k l0 a2).bind fun bt188 => (if (a3_0 == a4_0 && (a3_1 == a4_1)) = true then (if bt188.2.2.2.2.2 = 0 then (if bt183.1 = 0 then (some (bt183.2.1 == 0)) else (some false)) else (some false)) else (if bt188.2.2.2.2.2 = 0 then (if bt183.1 ≤ bt183.2.1 then (if (wrap64 (bt183.1 * (wrap64 (a1 + 500)))) ≥ (wrap64 ((wrap64 (bt186.1 - a1)) - 500)) then (if (wrap64 (a1 + 500)) = 0 then (none) else (if bt183.2.1 ≥ (wrap64 (Int.tdiv bt186.2 (wrap64 (a1 + 500)))) then (if (!(bt188.2.2.1 == 0) || (!(bt188.2.2.2.1 == 0))) = true then (some true) else (if bt188.2.2.2.2.1 = 0 then (if a1 = 0 then (none) else (if bt183.1 = (wrap64 (Int.tdiv bt186.1 a1)) then (some (bt183.2.1 == (wrap64 (Int.tdiv (wrap64 ((wrap64 (bt186.2 + a1)) - 1)) a1)))) else (some false))) else (some true))) else (some false))) else (some false)) else (some false)) else (some false))))) else (if bt183.1 = 0 then (some (bt183.2.1 == 0)) else (some false)))) else (some false))) = some r := h
 clear h
 replace H := Option.bind_eq_some_iff.mp H
 obtain ⟨t182, A60, H⟩ := H
 replace H : (if t182 = true then ((wind_Leg.f k l0 a1 a2 a3_0 a3_1 a4_0 a4_1).bind fun bt183 => (if bt183.2.2 = 0 then ((plane_Distance.f a3_0 a3_1 a4_0 a4_1).bind fun bt186 => ((wind_At.f k l0 a2).bind fun bt188 => (if (a3_0 == a4_0 && (a3_1 == a4_1)) = true then (if bt188.2.2.2.2.2 = 0 then (if bt183.1 = 0 then (some (bt183.2.1 == 0)) else (some false)) else (some false)) else (if bt188.2.2.2.2.2 = 0 then (if bt183.1 ≤ bt183.2.1 then (if (wrap64 (bt183.1 * (wrap64 (a1 + 500)))) ≥ (wrap64 ((wrap64 (bt186.1 - a1)) - 500)) then (if (wrap64 (a1 + 500)) = 0 then (none) else (if bt183.2.1 ≥ (wrap64 (Int.tdiv bt186.2 (wrap64 (a1 + 500)))) then (if (!(bt188.2.2.1 == 0) || (!(bt188.2.2.2.1 == 0))) = true then (some true) else (if bt188.2.2.2.2.1 = 0 then (if a1 = 0 then (none) else (if bt183.1 = (wrap64 (Int.tdiv bt186.1 a1)) then (some (bt183.2.1 == (wrap64 (Int.tdiv (wrap64 ((wrap64 (bt186.2 + a1)) - 1)) a1)))) else (some false))) else (some true))) else (some false))) else (some false)) else (some false)) else (some false))))) else (if bt183.1 = 0 then (some (bt183.2.1 == 0)) else (some false)))) else (some false)) = some r := H
 have A6 := Aside0.mk A60
 clear A60
 refine Or.elim (Classical.em (t182 = true)) (fun c7 => ?p2_) (fun c7 => ?n2_)
 case' p2_ =>
  subst c7
  have H1 : ((wind_Leg.f k l0 a1 a2 a3_0 a3_1 a4_0 a4_1).bind fun bt183 => (if bt183.2.2 = 0 then ((plane_Distance.f a3_0 a3_1 a4_0 a4_1).bind fun bt186 => ((wind_At.f k l0 a2).bind fun bt188 => (if (a3_0 == a4_0 && (a3_1 == a4_1)) = true then (if bt188.2.2.2.2.2 = 0 then (if bt183.1 = 0 then (some (bt183.2.1 == 0)) else (some false)) else (some false)) else (if bt188.2.2.2.2.2 = 0 then (if bt183.1 ≤ bt183.2.1 then (if (wrap64 (bt183.1 * (wrap64 (a1 + 500)))) ≥ (wrap64 ((wrap64 (bt186.1 - a1)) - 500)) then (if (wrap64 (a1 + 500)) = 0 then (none) else (if bt183.2.1 ≥ (wrap64 (Int.tdiv bt186.2 (wrap64 (a1 + 500)))) then (if (!(bt188.2.2.1 == 0) || (!(bt188.2.2.2.1 == 0))) = true then (some true) else (if bt188.2.2.2.2.1 = 0 then (if a1 = 0 then (none) else (if bt183.1 = (wrap64 (Int.tdiv bt186.1 a1)) then (some (bt183.2.1 == (wrap64 (Int.tdiv (wrap64 ((wrap64 (bt186.2 + a1)) - 1)) a1)))) else (some false))) else (some true))) else (some false))) else (some false)) else (some false)) else (some false))))) else (if bt183.1 = 0 then (some (bt183.2.1 == 0)) else (some false)))) = some r := by rw [if_pos rfl] at H; exact H
  clear H
  have H := H1
  clear H1
  replace H := Option.bind_eq_some_iff.mp H
  obtain ⟨⟨t183, t184, t185⟩, A80, H⟩ := H
  replace H : (if t185 = 0 then ((plane_Distance.f a3_0 a3_1 a4_0 a4_1).bind fun bt186 => ((wind_At.f k l0 a2).bind fun bt188 => (if (a3_0 == a4_0 && (a3_1 == a4_1)) = true then (if bt188.2.2.2.2.2 = 0 then (if t183 = 0 then (some (t184 == 0)) else (some false)) else (some false)) else (if bt188.2.2.2.2.2 = 0 then (if t183 ≤ t184 then (if (wrap64 (t183 * (wrap64 (a1 + 500)))) ≥ (wrap64 ((wrap64 (bt186.1 - a1)) - 500)) then (if (wrap64 (a1 + 500)) = 0 then (none) else (if t184 ≥ (wrap64 (Int.tdiv bt186.2 (wrap64 (a1 + 500)))) then (if (!(bt188.2.2.1 == 0) || (!(bt188.2.2.2.1 == 0))) = true then (some true) else (if bt188.2.2.2.2.1 = 0 then (if a1 = 0 then (none) else (if t183 = (wrap64 (Int.tdiv bt186.1 a1)) then (some (t184 == (wrap64 (Int.tdiv (wrap64 ((wrap64 (bt186.2 + a1)) - 1)) a1)))) else (some false))) else (some true))) else (some false))) else (some false)) else (some false)) else (some false))))) else (if t183 = 0 then (some (t184 == 0)) else (some false))) = some r := H
  have A8 := Aside0.mk A80
  clear A80
  refine Or.elim (Classical.em (t185 = 0)) (fun c9 => ?p3_) (fun c9 => ?n3_)
  case' p3_ =>
   rw [if_pos c9] at H
   have c9b0 : (t185 == 0) = true := beq_iff_eq.mpr c9
   have c9b1 : (t185 != 0) = false := bne_eq_false_iff_eq.mpr c9
   clear c9
   replace H := Option.bind_eq_some_iff.mp H
   obtain ⟨⟨t186, t187⟩, A100, H⟩ := H
   replace H : ((wind_At.f k l0 a2).bind fun bt188 => (if (a3_0 == a4_0 && (a3_1 == a4_1)) = true then (if bt188.2.2.2.2.2 = 0 then (if t183 = 0 then (some (t184 == 0)) else (some false)) else (some false)) else (if bt188.2.2.2.2.2 = 0 then (if t183 ≤ t184 then (if (wrap64 (t183 * (wrap64 (a1 + 500)))) ≥ (wrap64 ((wrap64 (t186 - a1)) - 500)) then (if (wrap64 (a1 + 500)) = 0 then (none) else (if t184 ≥ (wrap64 (Int.tdiv t187 (wrap64 (a1 + 500)))) then (if (!(bt188.2.2.1 == 0) || (!(bt188.2.2.2.1 == 0))) = true then (some true) else (if bt188.2.2.2.2.1 = 0 then (if a1 = 0 then (none) else (if t183 = (wrap64 (Int.tdiv t186 a1)) then (some (t184 == (wrap64 (Int.tdiv (wrap64 ((wrap64 (t187 + a1)) - 1)) a1)))) else (some false))) else (some true))) else (some false))) else (some false)) else (some false)) else (some false)))) = some r := H
   have A10 := Aside0.mk A100
   clear A100
   replace H := Option.bind_eq_some_iff.mp H
   obtain ⟨⟨t188, t189, t190, t191, t192, t193⟩, A110, H⟩ := H
   replace H : (if (a3_0 == a4_0 && (a3_1 == a4_1)) = true then (if t193 = 0 then (if t183 = 0 then (some (t184 == 0)) else (some false)) else (some false)) else (if t193 = 0 then (if t183 ≤ t184 then (if (wrap64 (t183 * (wrap64 (a1 + 500)))) ≥ (wrap64 ((wrap64 (t186 - a1)) - 500)) then (if (wrap64 (a1 + 500)) = 0 then (none) else (if t184 ≥ (wrap64 (Int.tdiv t187 (wrap64 (a1 + 500)))) then (if (!(t190 == 0) || (!(t191 == 0))) = true then (some true) else (if t192 = 0 then (if a1 = 0 then (none) else (if t183 = (wrap64 (Int.tdiv t186 a1)) then (some (t184 == (wrap64 (Int.tdiv (wrap64 ((wrap64 (t187 + a1)) - 1)) a1)))) else (some false))) else (some true))) else (some false))) else (some false)) else (some false)) else (some false))) = some r := H
   have A11 := Aside0.mk A110
   clear A110
   refine Or.elim (Classical.em ((a3_0 == a4_0 && (a3_1 == a4_1)) = true)) (fun c12 => ?p4_) (fun c12 => ?n4_)
   case' p4_ =>
    rw [if_pos c12] at H
    have c12b0 : (a3_0 == a4_0 && (a3_1 == a4_1)) = true := c12
    (try (have c12b1 : decide (a3_0 = a4_0 && (a3_1 == a4_1)) = true := by simpa using c12))
    (try (have c12b2 : (a3_0 == a4_0 && (a3_1 == a4_1)) = true := by simpa using c12))
    (try (have c12b3 : (!(a3_0 == a4_0) || (!(a3_1 == a4_1))) = false := by have h_ := c12; revert h_; cases (a3_0 == a4_0) <;> cases (a3_1 == a4_1) <;> decide))
    clear c12
    refine Or.elim (Classical.em (t193 = 0)) (fun c13 => ?p5_) (fun c13 => ?n5_)
    case' p5_ =>
     rw [if_pos c13] at H
     have c13b0 : (t193 == 0) = true := beq_iff_eq.mpr c13
     have c13b1 : (t193 != 0) = false := bne_eq_false_iff_eq.mpr c13
     clear c13
     refine Or.elim (Classical.em (t183 = 0)) (fun c14 => ?p6_) (fun c14 => ?n6_)
     case' p6_ =>
      rw [if_pos c14] at H
      have c14b0 : (t183 == 0) = true := beq_iff_eq.mpr c14
      have c14b1 : (t183 != 0) = false := bne_eq_false_iff_eq.mpr c14
      clear c14
      have hm1_0 := Aside0.mk trivial
     case' n6_ =>
      rw [if_neg c14] at H
      have c14b0 : (t183 == 0) = false := beq_eq_false_iff_ne.mpr c14
      have c14b1 : (t183 != 0) = true := bne_iff_ne.mpr c14
      have hm1_0 := Aside0.mk trivial
    case' n5_ =>
     rw [if_neg c13] at H
     have c13b0 : (t193 == 0) = false := beq_eq_false_iff_ne.mpr c13
     have c13b1 : (t193 != 0) = true := bne_iff_ne.mpr c13
     have hm1_0 := Aside0.mk trivial
   case' n4_ =>
    rw [if_neg c12] at H
    have c12b0 : (a3_0 == a4_0 && (a3_1 == a4_1)) = false := by simpa using c12
    (try (have c12b1 : decide (a3_0 = a4_0 && (a3_1 == a4_1)) = false := by simpa using c12))
    (try (have c12b2 : (a3_0 == a4_0 && (a3_1 == a4_1)) = false := by simpa using c12))
    (try (have c12b3 : ¬ (a3_0 = a4_0 && (a3_1 == a4_1)) := by simpa using c12))
    (try (have c12b4 : (!(a3_0 == a4_0) || (!(a3_1 == a4_1))) = true := by have h_ := c12; revert h_; cases (a3_0 == a4_0) <;> cases (a3_1 == a4_1) <;> decide))
    clear c12
    refine Or.elim (Classical.em (t193 = 0)) (fun c66 => ?p7_) (fun c66 => ?n7_)
    case' p7_ =>
     rw [if_pos c66] at H
     have c66b0 : (t193 == 0) = true := beq_iff_eq.mpr c66
     have c66b1 : (t193 != 0) = false := bne_eq_false_iff_eq.mpr c66
     clear c66
     refine Or.elim (Classical.em (t183 ≤ t184)) (fun c67 => ?p8_) (fun c67 => ?n8_)
     case' p8_ =>
      rw [if_pos c67] at H
      have c67b0 : decide (t183 ≤ t184) = true := decide_eq_true c67
      clear c67
      refine Or.elim (Classical.em ((wrap64 (t183 * (wrap64 (a1 + 500)))) ≥ (wrap64 ((wrap64 (t186 - a1)) - 500)))) (fun c68 => ?p9_) (fun c68 => ?n9_)
      case' p9_ =>
       rw [if_pos c68] at H
       have c68b0 : decide ((wrap64 ((wrap64 (t186 - a1)) - 500)) ≤ (wrap64 (t183 * (wrap64 (a1 + 500))))) = true := decide_eq_true c68
       clear c68
       refine Or.elim (Classical.em ((wrap64 (a1 + 500)) = 0)) (fun c69 => ?p10_) (fun c69 => ?n10_)
       case' p10_ =>
        rw [if_pos c69] at H
        exact absurd H (by simp)
       case' n10_ =>
        rw [if_neg c69] at H
        have c69b0 : ((wrap64 (a1 + 500)) == 0) = false := beq_eq_false_iff_ne.mpr c69
        have c69b1 : ((wrap64 (a1 + 500)) != 0) = true := bne_iff_ne.mpr c69
        refine Or.elim (Classical.em (t184 ≥ (wrap64 (Int.tdiv t187 (wrap64 (a1 + 500)))))) (fun c70 => ?p11_) (fun c70 => ?n11_)
        case' p11_ =>
         rw [if_pos c70] at H
         have c70b0 : decide ((wrap64 (Int.tdiv t187 (wrap64 (a1 + 500)))) ≤ t184) = true := decide_eq_true c70
         clear c70
         refine Or.elim (Classical.em ((!(t190 == 0) || (!(t191 == 0))) = true)) (fun c71 => ?p12_) (fun c71 => ?n12_)
         case' p12_ =>
          rw [if_pos c71] at H
          have c71b0 : (!(t190 == 0) || (!(t191 == 0))) = true := c71
          (try (have c71b1 : (t190 == 0 && (t191 == 0)) = false := by have h_ := c71; revert h_; cases (t190 == 0) <;> cases (t191 == 0) <;> decide))
          clear c71
          have hm1_0 := Aside0.mk trivial
         case' n12_ =>
          rw [if_neg c71] at H
          have c71b0 : (!(t190 == 0) || (!(t191 == 0))) = false := by simpa using c71
          (try (have c71b1 : (t190 == 0 && (t191 == 0)) = true := by have h_ := c71; revert h_; cases (t190 == 0) <;> cases (t191 == 0) <;> decide))
          clear c71
          refine Or.elim (Classical.em (t192 = 0)) (fun c89 => ?p13_) (fun c89 => ?n13_)
          case' p13_ =>
           rw [if_pos c89] at H
           have c89b0 : (t192 == 0) = true := beq_iff_eq.mpr c89
           have c89b1 : (t192 != 0) = false := bne_eq_false_iff_eq.mpr c89
           clear c89
           refine Or.elim (Classical.em (a1 = 0)) (fun c90 => ?p14_) (fun c90 => ?n14_)
           case' p14_ =>
            rw [if_pos c90] at H
            exact absurd H (by simp)
           case' n14_ =>
            rw [if_neg c90] at H
            have c90b0 : (a1 == 0) = false := beq_eq_false_iff_ne.mpr c90
            have c90b1 : (a1 != 0) = true := bne_iff_ne.mpr c90
            refine Or.elim (Classical.em (t183 = (wrap64 (Int.tdiv t186 a1)))) (fun c91 => ?p15_) (fun c91 => ?n15_)
            case' p15_ =>
             rw [if_pos c91] at H
             have c91b0 : (t183 == (wrap64 (Int.tdiv t186 a1))) = true := beq_iff_eq.mpr c91
             have c91b1 : (t183 != (wrap64 (Int.tdiv t186 a1))) = false := bne_eq_false_iff_eq.mpr c91
             clear c91
             have hm1_0 := Aside0.mk trivial
            case' n15_ =>
             rw [if_neg c91] at H
             have c91b0 : (t183 == (wrap64 (Int.tdiv t186 a1))) = false := beq_eq_false_iff_ne.mpr c91
             have c91b1 : (t183 != (wrap64 (Int.tdiv t186 a1))) = true := bne_iff_ne.mpr c91
             have hm1_0 := Aside0.mk trivial
          case' n13_ =>
           rw [if_neg c89] at H
           have c89b0 : (t192 == 0) = false := beq_eq_false_iff_ne.mpr c89
           have c89b1 : (t192 != 0) = true := bne_iff_ne.mpr c89
           have hm1_0 := Aside0.mk trivial
        case' n11_ =>
         rw [if_neg c70] at H
         have c70b0 : decide ((wrap64 (Int.tdiv t187 (wrap64 (a1 + 500)))) ≤ t184) = false := decide_eq_false c70
         clear c70
         have hm1_0 := Aside0.mk trivial
      case' n9_ =>
       rw [if_neg c68] at H
       have c68b0 : decide ((wrap64 ((wrap64 (t186 - a1)) - 500)) ≤ (wrap64 (t183 * (wrap64 (a1 + 500))))) = false := decide_eq_false c68
       clear c68
       have hm1_0 := Aside0.mk trivial
     case' n8_ =>
      rw [if_neg c67] at H
      have c67b0 : decide (t183 ≤ t184) = false := decide_eq_false c67
      clear c67
      have hm1_0 := Aside0.mk trivial
    case' n7_ =>
     rw [if_neg c66] at H
     have c66b0 : (t193 == 0) = false := beq_eq_false_iff_ne.mpr c66
     have c66b1 : (t193 != 0) = true := bne_iff_ne.mpr c66
     have hm1_0 := Aside0.mk trivial
  case' n3_ =>
   rw [if_neg c9] at H
   have c9b0 : (t185 == 0) = false := beq_eq_false_iff_ne.mpr c9
   have c9b1 : (t185 != 0) = true := bne_iff_ne.mpr c9
   refine Or.elim (Classical.em (t183 = 0)) (fun c211 => ?p16_) (fun c211 => ?n16_)
   case' p16_ =>
    rw [if_pos c211] at H
    have c211b0 : (t183 == 0) = true := beq_iff_eq.mpr c211
    have c211b1 : (t183 != 0) = false := bne_eq_false_iff_eq.mpr c211
    clear c211
    have hm1_1 := Aside0.mk trivial
   case' n16_ =>
    rw [if_neg c211] at H
    have c211b0 : (t183 == 0) = false := beq_eq_false_iff_ne.mpr c211
    have c211b1 : (t183 != 0) = true := bne_iff_ne.mpr c211
    have hm1_1 := Aside0.mk trivial
 case' n2_ =>
  replace c7 := Bool.eq_false_iff.mpr c7
  subst c7
  have H1 : (some false) = some r := by rw [if_neg (show ¬ (false = true) by decide)] at H; exact H
  clear H
  have H := H1
  clear H1
  have hm1_1 := Aside0.mk trivial
 all_goals
  obtain rfl := Option.some.inj H
  go_enter Tryd.func9, Tryd.ntmps9
  go_wp2_with (first | ((with_reducible refine gate_dst (N := 8) rfl ?_); refine box_event ?hg (N := 8) ?hd (cs := #[.int .i64 a3_0, .int .i64 a3_1]) (t := 28) ?hr ?_; (case hd => rfl); (case hg => rfl); (case hr => first | (go_simp; done) | (go_simp; rfl)); intro gb180 hg wx52cf1 hbox hb; have n0_ := Aside0.mk (below_step (by repeat (first | (with_reducible first | exact HB.out | apply below_alloc | apply pw_below_drewN | apply below_drew1) | exact HB.out)) hb); have n1_ := Aside0.mk (hbox); have n2_ := Aside0.mk ((by rw [hg]; exact (below_size (by repeat (first | (with_reducible first | exact HB.out | apply below_alloc | apply pw_below_drewN | apply below_drew1) | exact HB.out))) : w.heap.size ≤ gb180)); have n3_ := Aside0.mk ((by rw [hg]; exact (below_size (by repeat (first | (with_reducible first | exact HB.out | apply below_alloc | apply pw_below_drewN | apply below_drew1) | exact HB.out))) : w.heap.size ≤ gb180)); clear HB; have HB := n0_; have BK180 := n1_; have GW180 := n2_; have GE180 := n3_; clear n0_ n1_ n2_ n3_; clear hb hbox hg) | ((with_reducible refine gate_dst (N := 9) rfl ?_); refine box_event ?hg (N := 9) ?hd (cs := #[.int .i64 a4_0, .int .i64 a4_1]) (t := 28) ?hr ?_; (case hd => rfl); (case hg => rfl); (case hr => first | (go_simp; done) | (go_simp; rfl)); intro gb181 hg wx89c51 hbox hb; have n0_ := Aside0.mk (blk_below (g := gb180) (o := .cells #[.int .i64 a3_0, .int .i64 a3_1] 28 (0, 0)) (by (with_reducible repeat (first | refine blk_drewN ?_ _ | refine blk_drew ?_ | refine blk_alloc ?_ _)); exact BK180.out) hb); have n1_ := Aside0.mk (below_step (by repeat (first | (with_reducible first | exact HB.out | apply below_alloc | apply pw_below_drewN | apply below_drew1 | refine below_set ?_ GE180.out) | exact HB.out)) hb); have n2_ := Aside0.mk (hbox); have n3_ := Aside0.mk ((by rw [hg]; exact (below_size (by repeat (first | (with_reducible first | exact HB.out | apply below_alloc | apply pw_below_drewN | apply below_drew1 | refine below_set ?_ GE180.out) | exact HB.out))) : w.heap.size ≤ gb181)); have n4_ := Aside0.mk ((by rw [hg]; exact (below_size (by repeat (first | (with_reducible first | exact HB.out | apply below_alloc | apply pw_below_drewN | apply below_drew1 | refine below_set ?_ GE180.out) | exact HB.out))) : w.heap.size ≤ gb181)); have n5_ := Aside0.mk ((by rw [hg]; exact Nat.ne_of_lt (blk_lt (g := gb180) (o := .cells #[.int .i64 a3_0, .int .i64 a3_1] 28 (0, 0)) (by (with_reducible repeat (first | refine blk_drewN ?_ _ | refine blk_drew ?_ | refine blk_alloc ?_ _)); exact BK180.out)) : gb180 ≠ gb181)); have n6_ := Aside0.mk ((by rw [hg]; exact Nat.ne_of_gt (blk_lt (g := gb180) (o := .cells #[.int .i64 a3_0, .int .i64 a3_1] 28 (0, 0)) (by (with_reducible repeat (first | refine blk_drewN ?_ _ | refine blk_drew ?_ | refine blk_alloc ?_ _)); exact BK180.out)) : gb181 ≠ gb180)); clear BK180; clear HB; have BK180 := n0_; have HB := n1_; have BK181 := n2_; have GW181 := n3_; have GE181 := n4_; have NB180_181 := n5_; have NB181_180 := n6_; clear n0_ n1_ n2_ n3_ n4_ n5_ n6_; clear hb hbox hg) | ((with_reducible refine gate_callee (f := 19) rfl ?_); refine goesL_ (some 18) rfl rfl Tryd.func19 (by kernel_rfl) rfl #[] rfl (by (try simp only [List.map_toArray, List.map_cons, List.map_nil]); first | done | rfl | (simp only [List.length_drop, List.length_take]; rfl)) ?_; (with_reducible refine (skywaykeep1_windWorks.calls k  true _ A6.out).mono ?_); rintro e wx485f1 ⟨rfl, hb⟩; refine ⟨_, rfl, ?_⟩; have n0_ := Aside0.mk (blk_below (g := gb180) (o := .cells #[.int .i64 a3_0, .int .i64 a3_1] 28 (0, 0)) (by (with_reducible repeat (first | refine blk_drewN ?_ _ | refine blk_drew ?_ | refine blk_alloc ?_ _)); exact BK180.out) hb); have n1_ := Aside0.mk (blk_below (g := gb181) (o := .cells #[.int .i64 a4_0, .int .i64 a4_1] 28 (0, 0)) (by (with_reducible repeat (first | refine blk_drewN ?_ _ | refine blk_drew ?_ | refine blk_alloc ?_ _)); exact BK181.out) hb); have n2_ := Aside0.mk (below_step (by repeat (first | (with_reducible first | exact HB.out | apply below_alloc | apply pw_below_drewN | apply below_drew1 | refine below_set ?_ GE180.out | refine below_set ?_ GE181.out) | exact HB.out)) hb); clear BK180; clear BK181; clear HB; have BK180 := n0_; have BK181 := n1_; have HB := n2_; clear n0_ n1_ n2_; (try clear hb); (try clear hb2); (try clear hk); (try clear hi); have hnbx485f1 := NB180_181.out; have hncx485f1 := NB181_180.out; have hczx485f1 : wx485f1.cell? ⟨gb180, 0, none⟩ = some (.int .i64 a3_0) := (blk_cell BK180.out 0).trans rfl; have hczx485f2 : wx485f1.cell? ⟨gb180, 1, none⟩ = some (.int .i64 a3_1) := (blk_cell BK180.out 1).trans rfl; have hfzx485f1 := blk_frozen BK180.out 0; have hfzx485f2 := blk_frozen BK180.out 1; have hczx485f3 : wx485f1.cell? ⟨gb181, 0, none⟩ = some (.int .i64 a4_0) := (blk_cell BK181.out 0).trans rfl; have hczx485f4 : wx485f1.cell? ⟨gb181, 1, none⟩ = some (.int .i64 a4_1) := (blk_cell BK181.out 1).trans rfl; have hfzx485f3 := blk_frozen BK181.out 0; have hfzx485f4 := blk_frozen BK181.out 1) | ((with_reducible refine gate_callee (f := 19) rfl ?_); refine goesL_ (some 18) rfl rfl Tryd.func19 (by kernel_rfl) rfl #[] rfl (by (try simp only [List.map_toArray, List.map_cons, List.map_nil]); first | done | rfl | (simp only [List.length_drop, List.length_take]; rfl)) ?_; (with_reducible refine (skywaykeep1_windWorks.calls k  false _ A6.out).mono ?_); rintro e wxea271 ⟨rfl, hb⟩; refine ⟨_, rfl, ?_⟩; have n0_ := Aside0.mk (blk_below (g := gb180) (o := .cells #[.int .i64 a3_0, .int .i64 a3_1] 28 (0, 0)) (by (with_reducible repeat (first | refine blk_drewN ?_ _ | refine blk_drew ?_ | refine blk_alloc ?_ _)); exact BK180.out) hb); have n1_ := Aside0.mk (blk_below (g := gb181) (o := .cells #[.int .i64 a4_0, .int .i64 a4_1] 28 (0, 0)) (by (with_reducible repeat (first | refine blk_drewN ?_ _ | refine blk_drew ?_ | refine blk_alloc ?_ _)); exact BK181.out) hb); have n2_ := Aside0.mk (below_step (by repeat (first | (with_reducible first | exact HB.out | apply below_alloc | apply pw_below_drewN | apply below_drew1 | refine below_set ?_ GE180.out | refine below_set ?_ GE181.out) | exact HB.out)) hb); clear BK180; clear BK181; clear HB; have BK180 := n0_; have BK181 := n1_; have HB := n2_; clear n0_ n1_ n2_; (try clear hb); (try clear hb2); (try clear hk); (try clear hi)) | ((with_reducible refine gate_callee (f := 21) rfl ?_); refine goesL_ (some 26) rfl rfl Tryd.func21 (by kernel_rfl) rfl #[.slice A0 l0.length c0, .int .i64 a1, .int .i64 a2, .agg #[.int .i64 a3_0, .int .i64 a3_1], .agg #[.int .i64 a4_0, .int .i64 a4_1]] rfl (by (try simp only [List.map_toArray, List.map_cons, List.map_nil]); first | done | rfl | (simp only [List.length_drop, List.length_take]; rfl)) ?_; (with_reducible refine (wind_Leg.calls k _ _ l0 a1 a2 a3_0 a3_1 a4_0 a4_1 t183 t184 t185 _ ?side1 ?side2 A8.out).mono ?_); (case side1 => repeat (first | exact (Kd.C_below HR0.out HB.out) | (with_reducible refine Kd.C_alloc ?_ _) | (with_reducible refine Kd.C_drewN ?_ _) | (with_reducible refine Kd.C_drew ?_))); (case side2 => exact HC0.out); rintro e wx98b71 ⟨rfl, hb⟩; refine ⟨_, rfl, ?_⟩; have n0_ := Aside0.mk (blk_below (g := gb180) (o := .cells #[.int .i64 a3_0, .int .i64 a3_1] 28 (0, 0)) (by (with_reducible repeat (first | refine blk_drewN ?_ _ | refine blk_drew ?_ | refine blk_alloc ?_ _)); exact BK180.out) hb); have n1_ := Aside0.mk (blk_below (g := gb181) (o := .cells #[.int .i64 a4_0, .int .i64 a4_1] 28 (0, 0)) (by (with_reducible repeat (first | refine blk_drewN ?_ _ | refine blk_drew ?_ | refine blk_alloc ?_ _)); exact BK181.out) hb); have n2_ := Aside0.mk (below_step (by repeat (first | (with_reducible first | exact HB.out | apply below_alloc | apply pw_below_drewN | apply below_drew1 | refine below_set ?_ GE180.out | refine below_set ?_ GE181.out) | exact HB.out)) hb); clear BK180; clear BK181; clear HB; have BK180 := n0_; have BK181 := n1_; have HB := n2_; clear n0_ n1_ n2_; (try clear hb); (try clear hb2); (try clear hk); (try clear hi); have hczx98b71 : wx98b71.cell? ⟨gb180, 0, none⟩ = some (.int .i64 a3_0) := (blk_cell BK180.out 0).trans rfl; have hczx98b72 : wx98b71.cell? ⟨gb180, 1, none⟩ = some (.int .i64 a3_1) := (blk_cell BK180.out 1).trans rfl; have hfzx98b71 := blk_frozen BK180.out 0; have hfzx98b72 := blk_frozen BK180.out 1; have hczx98b73 : wx98b71.cell? ⟨gb181, 0, none⟩ = some (.int .i64 a4_0) := (blk_cell BK181.out 0).trans rfl; have hczx98b74 : wx98b71.cell? ⟨gb181, 1, none⟩ = some (.int .i64 a4_1) := (blk_cell BK181.out 1).trans rfl; have hfzx98b73 := blk_frozen BK181.out 0; have hfzx98b74 := blk_frozen BK181.out 1) | ((with_reducible refine gate_callee (f := 21) rfl ?_); refine goesL_ (some 26) rfl rfl Tryd.func21 (by kernel_rfl) rfl #[.slice A0 l0.length c0, .int .i64 a1, .int .i64 a2, .agg #[.int .i64 a3_0, .int .i64 a3_1], .agg #[.int .i64 a4_0, .int .i64 a4_1]] rfl (by (try simp only [List.map_toArray, List.map_cons, List.map_nil]); first | done | rfl | (simp only [List.length_drop, List.length_take]; rfl)) ?_; (with_reducible refine (wind_Leg.calls k _ _ l0 a1 a2 a3_0 a3_1 a4_0 a4_1 t183 t184 t185 _ ?side1 ?side2 A8.out).mono ?_); (case side1 => repeat (first | exact (Kd.C_below HR0.out HB.out) | (with_reducible refine Kd.C_alloc ?_ _) | (with_reducible refine Kd.C_drewN ?_ _) | (with_reducible refine Kd.C_drew ?_))); (case side2 => exact HC0.out); rintro e wxdf571 ⟨rfl, hb⟩; refine ⟨_, rfl, ?_⟩; have n0_ := Aside0.mk (blk_below (g := gb180) (o := .cells #[.int .i64 a3_0, .int .i64 a3_1] 28 (0, 0)) (by (with_reducible repeat (first | refine blk_drewN ?_ _ | refine blk_drew ?_ | refine blk_alloc ?_ _)); exact BK180.out) hb); have n1_ := Aside0.mk (blk_below (g := gb181) (o := .cells #[.int .i64 a4_0, .int .i64 a4_1] 28 (0, 0)) (by (with_reducible repeat (first | refine blk_drewN ?_ _ | refine blk_drew ?_ | refine blk_alloc ?_ _)); exact BK181.out) hb); have n2_ := Aside0.mk (below_step (by repeat (first | (with_reducible first | exact HB.out | apply below_alloc | apply pw_below_drewN | apply below_drew1 | refine below_set ?_ GE180.out | refine below_set ?_ GE181.out) | exact HB.out)) hb); clear BK180; clear BK181; clear HB; have BK180 := n0_; have BK181 := n1_; have HB := n2_; clear n0_ n1_ n2_; (try clear hb); (try clear hb2); (try clear hk); (try clear hi)) | ((with_reducible refine gate_callee (f := 18) rfl ?_); refine goesL_ (some 41) rfl rfl Tryd.func18 (by kernel_rfl) rfl #[.agg #[.int .i64 a3_0, .int .i64 a3_1], .agg #[.int .i64 a4_0, .int .i64 a4_1]] rfl (by (try simp only [List.map_toArray, List.map_cons, List.map_nil]); first | done | rfl | (simp only [List.length_drop, List.length_take]; rfl)) ?_; (with_reducible refine (plane_Distance.calls a3_0 a3_1 a4_0 a4_1 t186 t187 _ A10.out).mono ?_); rintro e wx4ebd1 ⟨rfl, hb⟩; refine ⟨_, rfl, ?_⟩; have n0_ := Aside0.mk (blk_below (g := gb180) (o := .cells #[.int .i64 a3_0, .int .i64 a3_1] 28 (0, 0)) (by (with_reducible repeat (first | refine blk_drewN ?_ _ | refine blk_drew ?_ | refine blk_alloc ?_ _)); exact BK180.out) hb); have n1_ := Aside0.mk (blk_below (g := gb181) (o := .cells #[.int .i64 a4_0, .int .i64 a4_1] 28 (0, 0)) (by (with_reducible repeat (first | refine blk_drewN ?_ _ | refine blk_drew ?_ | refine blk_alloc ?_ _)); exact BK181.out) hb); have n2_ := Aside0.mk (below_step (by repeat (first | (with_reducible first | exact HB.out | apply below_alloc | apply pw_below_drewN | apply below_drew1 | refine below_set ?_ GE180.out | refine below_set ?_ GE181.out) | exact HB.out)) hb); clear BK180; clear BK181; clear HB; have BK180 := n0_; have BK181 := n1_; have HB := n2_; clear n0_ n1_ n2_; (try clear hb); (try clear hb2); (try clear hk); (try clear hi)) | ((with_reducible refine gate_callee (f := 22) rfl ?_); refine goesL_ (some 47) rfl rfl Tryd.func22 (by kernel_rfl) rfl #[.slice A0 l0.length c0, .int .i64 a2] rfl (by (try simp only [List.map_toArray, List.map_cons, List.map_nil]); first | done | rfl | (simp only [List.length_drop, List.length_take]; rfl)) ?_; (with_reducible refine (wind_At.calls k _ _ l0 a2 t188 t189 t190 t191 t192 t193 _ ?side1 ?side2 A11.out).mono ?_); (case side1 => repeat (first | exact (Kd.C_below HR0.out HB.out) | (with_reducible refine Kd.C_alloc ?_ _) | (with_reducible refine Kd.C_drewN ?_ _) | (with_reducible refine Kd.C_drew ?_))); (case side2 => exact HC0.out); rintro e wx60d71 ⟨rfl, hb⟩; refine ⟨_, rfl, ?_⟩; have n0_ := Aside0.mk (blk_below (g := gb180) (o := .cells #[.int .i64 a3_0, .int .i64 a3_1] 28 (0, 0)) (by (with_reducible repeat (first | refine blk_drewN ?_ _ | refine blk_drew ?_ | refine blk_alloc ?_ _)); exact BK180.out) hb); have n1_ := Aside0.mk (blk_below (g := gb181) (o := .cells #[.int .i64 a4_0, .int .i64 a4_1] 28 (0, 0)) (by (with_reducible repeat (first | refine blk_drewN ?_ _ | refine blk_drew ?_ | refine blk_alloc ?_ _)); exact BK181.out) hb); have n2_ := Aside0.mk (below_step (by repeat (first | (with_reducible first | exact HB.out | apply below_alloc | apply pw_below_drewN | apply below_drew1 | refine below_set ?_ GE180.out | refine below_set ?_ GE181.out) | exact HB.out)) hb); clear BK180; clear BK181; clear HB; have BK180 := n0_; have BK181 := n1_; have HB := n2_; clear n0_ n1_ n2_; (try clear hb); (try clear hb2); (try clear hk); (try clear hi)) | ((with_reducible refine gate_dst (N := 16) rfl ?_); refine box_event ?hg (N := 16) ?hd (cs := #[.int .i64 0, .int .i64 0, .int .i64 0, .int .i64 0, .int .i64 0]) (t := 38) ?hr ?_; (case hd => rfl); (case hg => rfl); (case hr => first | (go_simp; done) | (go_simp; rfl)); intro gb194 hg wxd1961 hbox hb; have n0_ := Aside0.mk (blk_below (g := gb180) (o := .cells #[.int .i64 a3_0, .int .i64 a3_1] 28 (0, 0)) (by (with_reducible repeat (first | refine blk_drewN ?_ _ | refine blk_drew ?_ | refine blk_alloc ?_ _)); exact BK180.out) hb); have n1_ := Aside0.mk (blk_below (g := gb181) (o := .cells #[.int .i64 a4_0, .int .i64 a4_1] 28 (0, 0)) (by (with_reducible repeat (first | refine blk_drewN ?_ _ | refine blk_drew ?_ | refine blk_alloc ?_ _)); exact BK181.out) hb); have n2_ := Aside0.mk (below_step (by repeat (first | (with_reducible first | exact HB.out | apply below_alloc | apply pw_below_drewN | apply below_drew1 | refine below_set ?_ GE180.out | refine below_set ?_ GE181.out) | exact HB.out)) hb); have n3_ := Aside0.mk (hbox); have n4_ := Aside0.mk ((by rw [hg]; exact (below_size (by repeat (first | (with_reducible first | exact HB.out | apply below_alloc | apply pw_below_drewN | apply below_drew1 | refine below_set ?_ GE180.out | refine below_set ?_ GE181.out) | exact HB.out))) : w.heap.size ≤ gb194)); have n5_ := Aside0.mk ((by rw [hg]; exact (below_size (by repeat (first | (with_reducible first | exact HB.out | apply below_alloc | apply pw_below_drewN | apply below_drew1 | refine below_set ?_ GE180.out | refine below_set ?_ GE181.out) | exact HB.out))) : w.heap.size ≤ gb194)); have n6_ := Aside0.mk ((by rw [hg]; exact Nat.ne_of_lt (blk_lt (g := gb180) (o := .cells #[.int .i64 a3_0, .int .i64 a3_1] 28 (0, 0)) (by (with_reducible repeat (first | refine blk_drewN ?_ _ | refine blk_drew ?_ | refine blk_alloc ?_ _)); exact BK180.out)) : gb180 ≠ gb194)); have n7_ := Aside0.mk ((by rw [hg]; exact Nat.ne_of_gt (blk_lt (g := gb180) (o := .cells #[.int .i64 a3_0, .int .i64 a3_1] 28 (0, 0)) (by (with_reducible repeat (first | refine blk_drewN ?_ _ | refine blk_drew ?_ | refine blk_alloc ?_ _)); exact BK180.out)) : gb194 ≠ gb180)); have n8_ := Aside0.mk ((by rw [hg]; exact Nat.ne_of_lt (blk_lt (g := gb181) (o := .cells #[.int .i64 a4_0, .int .i64 a4_1] 28 (0, 0)) (by (with_reducible repeat (first | refine blk_drewN ?_ _ | refine blk_drew ?_ | refine blk_alloc ?_ _)); exact BK181.out)) : gb181 ≠ gb194)); have n9_ := Aside0.mk ((by rw [hg]; exact Nat.ne_of_gt (blk_lt (g := gb181) (o := .cells #[.int .i64 a4_0, .int .i64 a4_1] 28 (0, 0)) (by (with_reducible repeat (first | refine blk_drewN ?_ _ | refine blk_drew ?_ | refine blk_alloc ?_ _)); exact BK181.out)) : gb194 ≠ gb181)); clear BK180; clear BK181; clear HB; have BK180 := n0_; have BK181 := n1_; have HB := n2_; have BK194 := n3_; have GW194 := n4_; have GE194 := n5_; have NB180_194 := n6_; have NB194_180 := n7_; have NB181_194 := n8_; have NB194_181 := n9_; clear n0_ n1_ n2_ n3_ n4_ n5_ n6_ n7_ n8_ n9_; clear hb hbox hg; have hnbxd1961 := NB194_180.out; have hncxd1961 := NB180_194.out; have hnbxd1962 := NB194_181.out; have hncxd1962 := NB181_194.out; have hczxd1961 : wxd1961.cell? ⟨gb194, 0, none⟩ = some (.int .i64 0) := (blk_cell BK194.out 0).trans rfl; have hczxd1962 : wxd1961.cell? ⟨gb194, 1, none⟩ = some (.int .i64 0) := (blk_cell BK194.out 1).trans rfl; have hczxd1963 : wxd1961.cell? ⟨gb194, 2, none⟩ = some (.int .i64 0) := (blk_cell BK194.out 2).trans rfl; have hczxd1964 : wxd1961.cell? ⟨gb194, 3, none⟩ = some (.int .i64 0) := (blk_cell BK194.out 3).trans rfl; have hczxd1965 : wxd1961.cell? ⟨gb194, 4, none⟩ = some (.int .i64 0) := (blk_cell BK194.out 4).trans rfl; have hfzxd1961 := blk_frozen BK194.out 0; have hfzxd1962 := blk_frozen BK194.out 1; have hfzxd1963 := blk_frozen BK194.out 2; have hfzxd1964 := blk_frozen BK194.out 3; have hfzxd1965 := blk_frozen BK194.out 4; have hczxd1966 : wxd1961.cell? ⟨gb180, 0, none⟩ = some (.int .i64 a3_0) := (blk_cell BK180.out 0).trans rfl; have hczxd1967 : wxd1961.cell? ⟨gb180, 1, none⟩ = some (.int .i64 a3_1) := (blk_cell BK180.out 1).trans rfl; have hfzxd1966 := blk_frozen BK180.out 0; have hfzxd1967 := blk_frozen BK180.out 1; have hczxd1968 : wxd1961.cell? ⟨gb181, 0, none⟩ = some (.int .i64 a4_0) := (blk_cell BK181.out 0).trans rfl; have hczxd1969 : wxd1961.cell? ⟨gb181, 1, none⟩ = some (.int .i64 a4_1) := (blk_cell BK181.out 1).trans rfl; have hfzxd1968 := blk_frozen BK181.out 0; have hfzxd1969 := blk_frozen BK181.out 1))
  go_ret
  first
   | clear hm1_0
     exact ⟨by first | rfl | (simp [errW_none, errW_some] <;> rfl) | (simp [*, errW_none, errW_some] <;> rfl), by repeat (first | (with_reducible first | exact HB.out | apply below_alloc | apply pw_below_drewN | apply below_drew1 | refine below_set ?_ GE180.out | refine below_set ?_ GE181.out | refine below_set ?_ GE194.out) | exact HB.out)⟩
   | clear hm1_1
     exact ⟨by first | rfl | (simp [errW_none, errW_some] <;> rfl) | (simp [*, errW_none, errW_some] <;> rfl), by repeat (first | (with_reducible first | exact HB.out | apply below_alloc | apply pw_below_drewN | apply below_drew1 | refine below_set ?_ GE180.out | refine below_set ?_ GE181.out) | exact HB.out)⟩

/-- What is told of a value of struct type 28 that came in. -/
def good28 (x : S28) : Prop := ((Lit.int .i64 x.f0).wf = true) ∧ (Lit.int .i64 x.f1).wf = true
/-- What is told of a value of struct type 38 that came in. -/
def good38 (x : S38) : Prop := ((Lit.int .i64 x.f0).wf = true) ∧ ((Lit.int .i64 x.f1).wf = true) ∧ (good28 x.f2) ∧ (Lit.int .i64 x.f3).wf = true
/-- THE ONE PURE STATEMENT of skywaykeep1_WindLegs. -/
def skywaykeep1_WindLegs.Pure : Prop := ∀ (l0 : List (S38)) (a1 : Int) (a2 : Int) (a3_0 : Int) (a3_1 : Int) (a4_0 : Int) (a4_1 : Int), (l0.length * 40 ≤ 140737488351232 ∧ ∀ y0 ∈ l0, good38 y0) → ((Lit.int .i64 a1).wf = true) → ((Lit.int .i64 a2).wf = true) → ((Lit.int .i64 a3_0).wf = true) → ((Lit.int .i64 a3_1).wf = true) → ((Lit.int .i64 a4_0).wf = true) → ((Lit.int .i64 a4_1).wf = true) → ∃ k, skywaykeep1_WindLegs.f k l0 a1 a2 a3_0 a3_1 a4_0 a4_1 = some true

end Go.Proofs.YthpbpdobghceeaaDoor.PWindLegs
