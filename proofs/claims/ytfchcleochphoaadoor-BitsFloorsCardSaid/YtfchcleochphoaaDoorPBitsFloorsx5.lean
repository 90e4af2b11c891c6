/- Made by a program of this session (wip/tools/myprint.py, over the kit's printer): that the Go functions answer as the Lean functions printed beside them. -/
import Derived.Test.YtfchcleochphoaaDoorPBitsFloorsx0
import Derived.Test.YtfchcleochphoaaDoorPBitsFloorsx3
import Derived.Test.YtfchcleochphoaaDoorPBitsFloorsx4
namespace Go.Proofs.YtfchcleochphoaaDoor.PBitsFloors
open Go.RowKit Go.Proofs.YtfchcleochphoaaDoorW.PrintWords Go.Proofs.YtfchcleochphoaaDoorW.PrintLast Go.Proofs.YtfchcleochphoaaDoorW.PrintMore
attribute [local go_sem] max2_int min2_int max_two min_two max_three min_three max_four min_four   -- for this text's walks alone
set_option linter.unusedVariables false
set_option linter.unusedSimpArgs false

/-! ### skywaykeep1_bitsWorks: function 15 -/
def skywaykeep1_bitsWorks.f (k : Nat)  : Option (Bool) := (bits_Text.f 13832806255468478464 2).bind fun bt106 => ((bits_ToFixed.f k 4609434218613702656 1).bind fun bt108 => (if bt106.2 = 0 then (if bt106.1.toList = ([45, 49, 46, 53, 48] : List UInt8) then (if bt108.2.2 = 0 then (if bt108.1 = 3 then (some bt108.2.1) else (some false)) else (some false)) else (some false)) else (some false)))
theorem skywaykeep1_bitsWorks.mono : ∀ k, LeO (skywaykeep1_bitsWorks.f k ) (skywaykeep1_bitsWorks.f (k + 1) ) := by
  intro  k
  unfold skywaykeep1_bitsWorks.f
  repeat' first
      | (with_reducible exact bits_ToFixed.mono _ _ _)
      | (with_reducible exact LeO.refl _)
      | (with_reducible exact LeO.none _)
      | (with_reducible refine LeO.ite ?_ ?_)
      | (with_reducible refine LeO.bind ?_ (fun _ => ?_))
      | exact bits_ToFixed.mono _ _ _
      | exact LeO.none _
      | refine LeO.ite ?_ ?_
      | refine LeO.bind ?_ (fun _ => ?_)
set_option maxHeartbeats 8000000 in
set_option maxRecDepth 100000 in
theorem skywaykeep1_bitsWorks.calls (k : Nat)  (r : Bool) (w : World) (h : skywaykeep1_bitsWorks.f k  = some r) :
    Calls Tryd.prog 15 #[] w fun e w' => e = .returned (.bool r) ∧ Below w.heap.size w w' := by
 have HB := Aside0.mk (Below.refl w.heap.size w)
 have H : ((bits_Text.f 13832806255468478464 2).bind fun bt106 => ((bits_ToFixed.f k 4609434218613702656 1).bind fun bt108 => (if bt106.2 = 0 then (if bt106.1.toList = ([45, 49, 46, 53, 48] : List UInt8) then (if bt108.2.2 = 0 then (if bt108.1 = 3 then (some bt108.2.1) else (some false)) else (some false)) else (some false)) else (some false)))) = some r := h
 clear h
 replace H := Option.bind_eq_some_iff.mp H
 obtain ⟨⟨t106, t107⟩, A10, H⟩ := H
 replace H : ((bits_ToFixed.f k 4609434218613702656 1).bind fun bt108 => (if t107 = 0 then (if t106.toList = ([45, 49, 46, 53, 48] : List UInt8) then (if bt108.2.2 = 0 then (if bt108.1 = 3 then (some bt108.2.1) else (some false)) else (some false)) else (some false)) else (some false))) = some r := H
 have A1 := Aside0.mk A10
 clear A10
 replace H := Option.bind_eq_some_iff.mp H
 obtain ⟨⟨t108, t109, t110⟩, A20, H⟩ := H
 replace H : (if t107 = 0 then (if t106.toList = ([45, 49, 46, 53, 48] : List UInt8) then (if t110 = 0 then (if t108 = 3 then (some t109) else (some false)) else (some false)) else (some false)) else (some false)) = some r := H
 have A2 := Aside0.mk A20
 clear A20
 refine Or.elim (Classical.em (t107 = 0)) (fun c3 => ?p2_) (fun c3 => ?n2_)
 case' p2_ =>
  rw [if_pos c3] at H
  have c3b0 : (t107 == 0) = true := beq_iff_eq.mpr c3
  have c3b1 : (t107 != 0) = false := bne_eq_false_iff_eq.mpr c3
  clear c3
  refine Or.elim (Classical.em (t106.toList = ([45, 49, 46, 53, 48] : List UInt8))) (fun c4 => ?p3_) (fun c4 => ?n3_)
  case' p3_ =>
   rw [if_pos c4] at H
   have c4b0 : (t106.toList == ([45, 49, 46, 53, 48] : List UInt8)) = true := beq_iff_eq.mpr c4
   have c4b1 : (t106.toList != ([45, 49, 46, 53, 48] : List UInt8)) = false := bne_eq_false_iff_eq.mpr c4
   clear c4
   refine Or.elim (Classical.em (t110 = 0)) (fun c5 => ?p4_) (fun c5 => ?n4_)
   case' p4_ =>
    rw [if_pos c5] at H
    have c5b0 : (t110 == 0) = true := beq_iff_eq.mpr c5
    have c5b1 : (t110 != 0) = false := bne_eq_false_iff_eq.mpr c5
    clear c5
    refine Or.elim (Classical.em (t108 = 3)) (fun c6 => ?p5_) (fun c6 => ?n5_)
    case' p5_ =>
     rw [if_pos c6] at H
     have c6b0 : (t108 == 3) = true := beq_iff_eq.mpr c6
     have c6b1 : (t108 != 3) = false := bne_eq_false_iff_eq.mpr c6
     clear c6
    case' n5_ =>
     rw [if_neg c6] at H
     have c6b0 : (t108 == 3) = false := beq_eq_false_iff_ne.mpr c6
     have c6b1 : (t108 != 3) = true := bne_iff_ne.mpr c6
   case' n4_ =>
    rw [if_neg c5] at H
    have c5b0 : (t110 == 0) = false := beq_eq_false_iff_ne.mpr c5
    have c5b1 : (t110 != 0) = true := bne_iff_ne.mpr c5
  case' n3_ =>
   rw [if_neg c4] at H
   have c4b0 : (t106.toList == ([45, 49, 46, 53, 48] : List UInt8)) = false := beq_eq_false_iff_ne.mpr c4
   have c4b1 : (t106.toList != ([45, 49, 46, 53, 48] : List UInt8)) = true := bne_iff_ne.mpr c4
 case' n2_ =>
  rw [if_neg c3] at H
  have c3b0 : (t107 == 0) = false := beq_eq_false_iff_ne.mpr c3
  have c3b1 : (t107 != 0) = true := bne_iff_ne.mpr c3
 all_goals
  obtain rfl := Option.some.inj H
  go_enter Tryd.func15, Tryd.ntmps15
  go_wp2_with (first | ((with_reducible refine gate_callee (f := 18) rfl ?_); refine goesL_ (some 7) rfl rfl Tryd.func18 (by kernel_rfl) rfl #[.int .u64 13832806255468478464, .int .i64 2] rfl (by (try simp only [List.map_toArray, List.map_cons, List.map_nil]); first | done | rfl | (simp only [List.length_drop, List.length_take]; rfl)) ?_; (with_reducible refine (bits_Text.calls 13832806255468478464 2 t106 t107 _ A1.out).mono ?_); rintro e wxc8271 ⟨rfl, hb⟩; refine ⟨_, rfl, ?_⟩; have n0_ := Aside0.mk (below_step (by repeat (first | (with_reducible first | exact HB.out | apply below_alloc | apply pw_below_drewN | apply below_drew1) | exact HB.out)) hb); clear HB; have HB := n0_; clear n0_; (try clear hb); (try clear hb2); (try clear hk); (try clear hi)) | ((with_reducible refine gate_callee (f := 16) rfl ?_); refine goesL_ (some 11) rfl rfl Tryd.func16 (by kernel_rfl) rfl #[.int .u64 4609434218613702656, .int .i64 1] rfl (by (try simp only [List.map_toArray, List.map_cons, List.map_nil]); first | done | rfl | (simp only [List.length_drop, List.length_take]; rfl)) ?_; (with_reducible refine (bits_ToFixed.calls k 4609434218613702656 1 t108 t109 t110 _ A2.out).mono ?_); rintro e wxeeb61 ⟨rfl, hb⟩; refine ⟨_, rfl, ?_⟩; have n0_ := Aside0.mk (below_step (by repeat (first | (with_reducible first | exact HB.out | apply below_alloc | apply pw_below_drewN | apply below_drew1) | exact HB.out)) hb); clear HB; have HB := n0_; clear n0_; (try clear hb); (try clear hb2); (try clear hk); (try clear hi)))
  go_ret
  exact ⟨by first | rfl | (simp [errW_none, errW_some] <;> rfl) | (simp [*, errW_none, errW_some] <;> rfl), by repeat (first | (with_reducible first | exact HB.out | apply below_alloc | apply pw_below_drewN | apply below_drew1) | exact HB.out)⟩

/-! ### skywaykeep1_BitsFloors: function 5 -/
def skywaykeep1_BitsFloors.f (k : Nat) (a0 : Int) (a1 : Int) : Option (Bool) := (skywaykeep1_bitsWorks.f k).bind fun t111 => (if t111 = true then ((bits_ToFixed.f k a0 a1).bind fun bt112 => ((bits_ToFixed.f k a0 (wrap64 (a1 + 1))).bind fun bt115 => (if bt112.2.2 = 0 then (if bt115.2.2 = 0 then (if bt115.1 = (wrap64 (2 * bt112.1)) then (if bt112.2.1 = true then (if bt115.2.1 = true then (some true) else (some false)) else (if bt115.2.1 = true then (some (bt115.1 == (wrap64 ((wrap64 (2 * bt112.1)) + 1)))) else (some true))) else (if bt115.1 = (wrap64 ((wrap64 (2 * bt112.1)) + 1)) then (if bt112.2.1 = true then (if bt115.2.1 = true then (some false) else (some false)) else (if bt115.2.1 = true then (some (bt115.1 == (wrap64 ((wrap64 (2 * bt112.1)) + 1)))) else (some true))) else (some false))) else (some true)) else (some true)))) else (some false))
theorem skywaykeep1_BitsFloors.mono : ∀ a0 a1 k, LeO (skywaykeep1_BitsFloors.f k a0 a1) (skywaykeep1_BitsFloors.f (k + 1) a0 a1) := by
  intro a0 a1 k
  unfold skywaykeep1_BitsFloors.f
  repeat' first
      | (with_reducible exact bits_ToFixed.mono _ _ _)
      | (with_reducible exact skywaykeep1_bitsWorks.mono _)
      | (with_reducible exact LeO.refl _)
      | (with_reducible exact LeO.none _)
      | (with_reducible refine LeO.ite ?_ ?_)
      | (with_reducible refine LeO.bind ?_ (fun _ => ?_))
      | exact bits_ToFixed.mono _ _ _
      | exact skywaykeep1_bitsWorks.mono _
      | exact LeO.none _
      | refine LeO.ite ?_ ?_
      | refine LeO.bind ?_ (fun _ => ?_)
set_option maxHeartbeats 8000000 in
set_option maxRecDepth 100000 in
theorem skywaykeep1_BitsFloors.calls (k : Nat) (a0 : Int) (a1 : Int) (r : Bool) (w : World) (h : skywaykeep1_BitsFloors.f k a0 a1 = some r) :
    Calls Tryd.prog 5 #[.int .u64 a0, .int .i64 a1] w fun e w' => e = .returned (.bool r) ∧ Below w.heap.size w w' := by
 have HB := Aside0.mk (Below.refl w.heap.size w)
 have H : ((skywaykeep1_bitsWorks.f k).bind fun t111 => (if t111 = true then ((bits_ToFixed.f k a0 a1).bind fun bt112 => ((bits_ToFixed.f k a0 (wrap64 (a1 + 1))).bind fun bt115 => (if bt112.2.2 = 0 then (if bt115.2.2 = 0 then (if bt115.1 = (wrap64 (2 * bt112.1)) then (if bt112.2.1 = true then (if bt115.2.1 = true then (some true) else (some false)) else (if bt115.2.1 = true then (some (bt115.1 == (wrap64 ((wrap64 (2 * bt112.1)) + 1)))) else (some true))) else (if bt115.1 = (wrap64 ((wrap64 (2 * bt112.1)) + 1)) then (if bt112.2.1 = true then (if bt115.2.1 = true then (some false) else (some false)) else (if bt115.2.1 = true then (some (bt115.1 == (wrap64 ((wrap64 (2 * bt112.1)) + 1)))) else (some true))) else (some false))) else (some true)) else (some true)))) else (some false))) = some r := h
 clear h
 replace H := Option.bind_eq_some_iff.mp H
 obtain ⟨t111, A30, H⟩ := H
 replace H : (if t111 = true then ((bits_ToFixed.f k a0 a1).bind fun bt112 => ((bits_ToFixed.f k a0 (wrap64 (a1 + 1))).bind fun bt115 => (if bt112.2.2 = 0 then (if bt115.2.2 = 0 then (if bt115.1 = (wrap64 (2 * bt112.1)) then (if bt112.2.1 = true then (if bt115.2.1 = true then (some true) else (some false)) else (if bt115.2.1 = true then (some (bt115.1 == (wrap64 ((wrap64 (2 * bt112.1)) + 1)))) else (some true))) else (if bt115.1 = (wrap64 ((wrap64 (2 * bt112.1)) + 1)) then (if bt112.2.1 = true then (if bt115.2.1 = true then (some false) else (some false)) else (if bt115.2.1 = true then (some (bt115.1 == (wrap64 ((wrap64 (2 * bt112.1)) + 1)))) else (some true))) else (some false))) else (some true)) else (some true)))) else (some false)) = some r := H
 have A3 := Aside0.mk A30
 clear A30
 refine Or.elim (Classical.em (t111 = true)) (fun c4 => ?p2_) (fun c4 => ?n2_)
 case' p2_ =>
  subst c4
  have H1 : ((bits_ToFixed.f k a0 a1).bind fun bt112 => ((bits_ToFixed.f k a0 (wrap64 (a1 + 1))).bind fun bt115 => (if bt112.2.2 = 0 then (if bt115.2.2 = 0 then (if bt115.1 = (wrap64 (2 * bt112.1)) then (if bt112.2.1 = true then (if bt115.2.1 = true then (some true) else (some false)) else (if bt115.2.1 = true then (some (bt115.1 == (wrap64 ((wrap64 (2 * bt112.1)) + 1)))) else (some true))) else (if bt115.1 = (wrap64 ((wrap64 (2 * bt112.1)) + 1)) then (if bt112.2.1 = true then (if bt115.2.1 = true then (some false) else (some false)) else (if bt115.2.1 = true then (some (bt115.1 == (wrap64 ((wrap64 (2 * bt112.1)) + 1)))) else (some true))) else (some false))) else (some true)) else (some true)))) = some r := by rw [if_pos rfl] at H; exact H
  clear H
  have H := H1
  clear H1
  replace H := Option.bind_eq_some_iff.mp H
  obtain ⟨⟨t112, t113, t114⟩, A50, H⟩ := H
  replace H : ((bits_ToFixed.f k a0 (wrap64 (a1 + 1))).bind fun bt115 => (if t114 = 0 then (if bt115.2.2 = 0 then (if bt115.1 = (wrap64 (2 * t112)) then (if t113 = true then (if bt115.2.1 = true then (some true) else (some false)) else (if bt115.2.1 = true then (some (bt115.1 == (wrap64 ((wrap64 (2 * t112)) + 1)))) else (some true))) else (if bt115.1 = (wrap64 ((wrap64 (2 * t112)) + 1)) then (if t113 = true then (if bt115.2.1 = true then (some false) else (some false)) else (if bt115.2.1 = true then (some (bt115.1 == (wrap64 ((wrap64 (2 * t112)) + 1)))) else (some true))) else (some false))) else (some true)) else (some true))) = some r := H
  have A5 := Aside0.mk A50
  clear A50
  replace H := Option.bind_eq_some_iff.mp H
  obtain ⟨⟨t115, t116, t117⟩, A60, H⟩ := H
  replace H : (if t114 = 0 then (if t117 = 0 then (if t115 = (wrap64 (2 * t112)) then (if t113 = true then (if t116 = true then (some true) else (some false)) else (if t116 = true then (some (t115 == (wrap64 ((wrap64 (2 * t112)) + 1)))) else (some true))) else (if t115 = (wrap64 ((wrap64 (2 * t112)) + 1)) then (if t113 = true then (if t116 = true then (some false) else (some false)) else (if t116 = true then (some (t115 == (wrap64 ((wrap64 (2 * t112)) + 1)))) else (some true))) else (some false))) else (some true)) else (some true)) = some r := H
  have A6 := Aside0.mk A60
  clear A60
  refine Or.elim (Classical.em (t114 = 0)) (fun c7 => ?p3_) (fun c7 => ?n3_)
  case' p3_ =>
   rw [if_pos c7] at H
   have c7b0 : (t114 == 0) = true := beq_iff_eq.mpr c7
   have c7b1 : (t114 != 0) = false := bne_eq_false_iff_eq.mpr c7
   clear c7
   refine Or.elim (Classical.em (t117 = 0)) (fun c8 => ?p4_) (fun c8 => ?n4_)
   case' p4_ =>
    rw [if_pos c8] at H
    have c8b0 : (t117 == 0) = true := beq_iff_eq.mpr c8
    have c8b1 : (t117 != 0) = false := bne_eq_false_iff_eq.mpr c8
    clear c8
    refine Or.elim (Classical.em (t115 = (wrap64 (2 * t112)))) (fun c9 => ?p5_) (fun c9 => ?n5_)
    case' p5_ =>
     rw [if_pos c9] at H
     have c9b0 : (t115 == (wrap64 (2 * t112))) = true := beq_iff_eq.mpr c9
     have c9b1 : (t115 != (wrap64 (2 * t112))) = false := bne_eq_false_iff_eq.mpr c9
     clear c9
     refine Or.elim (Classical.em (t113 = true)) (fun c10 => ?p6_) (fun c10 => ?n6_)
     case' p6_ =>
      subst c10
      have H1 : (if t116 = true then (some true) else (some false)) = some r := by rw [if_pos rfl] at H; exact H
      clear H
      have H := H1
      clear H1
      refine Or.elim (Classical.em (t116 = true)) (fun c11 => ?p7_) (fun c11 => ?n7_)
      case' p7_ =>
       subst c11
       have H1 : (some true) = some r := by rw [if_pos rfl] at H; exact H
       clear H
       have H := H1
       clear H1
      case' n7_ =>
       replace c11 := Bool.eq_false_iff.mpr c11
       subst c11
       have H1 : (some false) = some r := by rw [if_neg (show ¬ (false = true) by decide)] at H; exact H
       clear H
       have H := H1
       clear H1
     case' n6_ =>
      replace c10 := Bool.eq_false_iff.mpr c10
      subst c10
      have H1 : (if t116 = true then (some (t115 == (wrap64 ((wrap64 (2 * t112)) + 1)))) else (some true)) = some r := by rw [if_neg (show ¬ (false = true) by decide)] at H; exact H
      clear H
      have H := H1
      clear H1
      refine Or.elim (Classical.em (t116 = true)) (fun c18 => ?p8_) (fun c18 => ?n8_)
      case' p8_ =>
       subst c18
       have H1 : (some (t115 == (wrap64 ((wrap64 (2 * t112)) + 1)))) = some r := by rw [if_pos rfl] at H; exact H
       clear H
       have H := H1
       clear H1
      case' n8_ =>
       replace c18 := Bool.eq_false_iff.mpr c18
       subst c18
       have H1 : (some true) = some r := by rw [if_neg (show ¬ (false = true) by decide)] at H; exact H
       clear H
       have H := H1
       clear H1
    case' n5_ =>
     rw [if_neg c9] at H
     have c9b0 : (t115 == (wrap64 (2 * t112))) = false := beq_eq_false_iff_ne.mpr c9
     have c9b1 : (t115 != (wrap64 (2 * t112))) = true := bne_iff_ne.mpr c9
     refine Or.elim (Classical.em (t115 = (wrap64 ((wrap64 (2 * t112)) + 1)))) (fun c25 => ?p9_) (fun c25 => ?n9_)
     case' p9_ =>
      rw [if_pos c25] at H
      have c25b0 : (t115 == (wrap64 ((wrap64 (2 * t112)) + 1))) = true := beq_iff_eq.mpr c25
      have c25b1 : (t115 != (wrap64 ((wrap64 (2 * t112)) + 1))) = false := bne_eq_false_iff_eq.mpr c25
      clear c25
      refine Or.elim (Classical.em (t113 = true)) (fun c26 => ?p10_) (fun c26 => ?n10_)
      case' p10_ =>
       subst c26
       have H1 : (if t116 = true then (some false) else (some false)) = some r := by rw [if_pos rfl] at H; exact H
       clear H
       have H := H1
       clear H1
       refine Or.elim (Classical.em (t116 = true)) (fun c27 => ?p11_) (fun c27 => ?n11_)
       case' p11_ =>
        subst c27
        have H1 : (some false) = some r := by rw [if_pos rfl] at H; exact H
        clear H
        have H := H1
        clear H1
       case' n11_ =>
        replace c27 := Bool.eq_false_iff.mpr c27
        subst c27
        have H1 : (some false) = some r := by rw [if_neg (show ¬ (false = true) by decide)] at H; exact H
        clear H
        have H := H1
        clear H1
      case' n10_ =>
       replace c26 := Bool.eq_false_iff.mpr c26
       subst c26
       have H1 : (if t116 = true then (some (t115 == (wrap64 ((wrap64 (2 * t112)) + 1)))) else (some true)) = some r := by rw [if_neg (show ¬ (false = true) by decide)] at H; exact H
       clear H
       have H := H1
       clear H1
       refine Or.elim (Classical.em (t116 = true)) (fun c34 => ?p12_) (fun c34 => ?n12_)
       case' p12_ =>
        subst c34
        have H1 : (some (t115 == (wrap64 ((wrap64 (2 * t112)) + 1)))) = some r := by rw [if_pos rfl] at H; exact H
        clear H
        have H := H1
        clear H1
       case' n12_ =>
        replace c34 := Bool.eq_false_iff.mpr c34
        subst c34
        have H1 : (some true) = some r := by rw [if_neg (show ¬ (false = true) by decide)] at H; exact H
        clear H
        have H := H1
        clear H1
     case' n9_ =>
      rw [if_neg c25] at H
      have c25b0 : (t115 == (wrap64 ((wrap64 (2 * t112)) + 1))) = false := beq_eq_false_iff_ne.mpr c25
      have c25b1 : (t115 != (wrap64 ((wrap64 (2 * t112)) + 1))) = true := bne_iff_ne.mpr c25
   case' n4_ =>
    rw [if_neg c8] at H
    have c8b0 : (t117 == 0) = false := beq_eq_false_iff_ne.mpr c8
    have c8b1 : (t117 != 0) = true := bne_iff_ne.mpr c8
  case' n3_ =>
   rw [if_neg c7] at H
   have c7b0 : (t114 == 0) = false := beq_eq_false_iff_ne.mpr c7
   have c7b1 : (t114 != 0) = true := bne_iff_ne.mpr c7
 case' n2_ =>
  replace c4 := Bool.eq_false_iff.mpr c4
  subst c4
  have H1 : (some false) = some r := by rw [if_neg (show ¬ (false = true) by decide)] at H; exact H
  clear H
  have H := H1
  clear H1
 all_goals
  obtain rfl := Option.some.inj H
  go_enter Tryd.func5, Tryd.ntmps5
  go_wp2_with (first | ((with_reducible refine gate_callee (f := 15) rfl ?_); refine goesL_ (some 11) rfl rfl Tryd.func15 (by kernel_rfl) rfl #[] rfl (by (try simp only [List.map_toArray, List.map_cons, List.map_nil]); first | done | rfl | (simp only [List.length_drop, List.length_take]; rfl)) ?_; (with_reducible refine (skywaykeep1_bitsWorks.calls k  false _ A3.out).mono ?_); rintro e wx1c911 ⟨rfl, hb⟩; refine ⟨_, rfl, ?_⟩; have n0_ := Aside0.mk (below_step (by repeat (first | (with_reducible first | exact HB.out | apply below_alloc | apply pw_below_drewN | apply below_drew1) | exact HB.out)) hb); clear HB; have HB := n0_; clear n0_; (try clear hb); (try clear hb2); (try clear hk); (try clear hi)) | ((with_reducible refine gate_callee (f := 15) rfl ?_); refine goesL_ (some 11) rfl rfl Tryd.func15 (by kernel_rfl) rfl #[] rfl (by (try simp only [List.map_toArray, List.map_cons, List.map_nil]); first | done | rfl | (simp only [List.length_drop, List.length_take]; rfl)) ?_; (with_reducible refine (skywaykeep1_bitsWorks.calls k  true _ A3.out).mono ?_); rintro e wx80ec1 ⟨rfl, hb⟩; refine ⟨_, rfl, ?_⟩; have n0_ := Aside0.mk (below_step (by repeat (first | (with_reducible first | exact HB.out | apply below_alloc | apply pw_below_drewN | apply below_drew1) | exact HB.out)) hb); clear HB; have HB := n0_; clear n0_; (try clear hb); (try clear hb2); (try clear hk); (try clear hi)) | ((with_reducible refine gate_callee (f := 16) rfl ?_); refine goesL_ (some 16) rfl rfl Tryd.func16 (by kernel_rfl) rfl #[.int .u64 a0, .int .i64 a1] rfl (by (try simp only [List.map_toArray, List.map_cons, List.map_nil]); first | done | rfl | (simp only [List.length_drop, List.length_take]; rfl)) ?_; (with_reducible refine (bits_ToFixed.calls k a0 a1 t112 false t114 _ A5.out).mono ?_); rintro e wxf89f1 ⟨rfl, hb⟩; refine ⟨_, rfl, ?_⟩; have n0_ := Aside0.mk (below_step (by repeat (first | (with_reducible first | exact HB.out | apply below_alloc | apply pw_below_drewN | apply below_drew1) | exact HB.out)) hb); clear HB; have HB := n0_; clear n0_; (try clear hb); (try clear hb2); (try clear hk); (try clear hi)) | ((with_reducible refine gate_callee (f := 16) rfl ?_); refine goesL_ (some 16) rfl rfl Tryd.func16 (by kernel_rfl) rfl #[.int .u64 a0, .int .i64 a1] rfl (by (try simp only [List.map_toArray, List.map_cons, List.map_nil]); first | done | rfl | (simp only [List.length_drop, List.length_take]; rfl)) ?_; (with_reducible refine (bits_ToFixed.calls k a0 a1 t112 true t114 _ A5.out).mono ?_); rintro e wx28e61 ⟨rfl, hb⟩; refine ⟨_, rfl, ?_⟩; have n0_ := Aside0.mk (below_step (by repeat (first | (with_reducible first | exact HB.out | apply below_alloc | apply pw_below_drewN | apply below_drew1) | exact HB.out)) hb); clear HB; have HB := n0_; clear n0_; (try clear hb); (try clear hb2); (try clear hk); (try clear hi)) | ((with_reducible refine gate_callee (f := 16) rfl ?_); refine goesL_ (some 16) rfl rfl Tryd.func16 (by kernel_rfl) rfl #[.int .u64 a0, .int .i64 a1] rfl (by (try simp only [List.map_toArray, List.map_cons, List.map_nil]); first | done | rfl | (simp only [List.length_drop, List.length_take]; rfl)) ?_; (with_reducible refine (bits_ToFixed.calls k a0 a1 t112 t113 t114 _ A5.out).mono ?_); rintro e wx9c3a1 ⟨rfl, hb⟩; refine ⟨_, rfl, ?_⟩; have n0_ := Aside0.mk (below_step (by repeat (first | (with_reducible first | exact HB.out | apply below_alloc | apply pw_below_drewN | apply below_drew1) | exact HB.out)) hb); clear HB; have HB := n0_; clear n0_; (try clear hb); (try clear hb2); (try clear hk); (try clear hi)) | ((with_reducible refine gate_callee (f := 16) rfl ?_); refine goesL_ (some 24) rfl rfl Tryd.func16 (by kernel_rfl) rfl #[.int .u64 a0, .int .i64 (wrap64 (a1 + 1))] rfl (by (try simp only [List.map_toArray, List.map_cons, List.map_nil]); first | done | rfl | (simp only [List.length_drop, List.length_take]; rfl)) ?_; (with_reducible refine (bits_ToFixed.calls k a0 (wrap64 (a1 + 1)) t115 false t117 _ A6.out).mono ?_); rintro e wx38711 ⟨rfl, hb⟩; refine ⟨_, rfl, ?_⟩; have n0_ := Aside0.mk (below_step (by repeat (first | (with_reducible first | exact HB.out | apply below_alloc | apply pw_below_drewN | apply below_drew1) | exact HB.out)) hb); clear HB; have HB := n0_; clear n0_; (try clear hb); (try clear hb2); (try clear hk); (try clear hi)) | ((with_reducible refine gate_callee (f := 16) rfl ?_); refine goesL_ (some 24) rfl rfl Tryd.func16 (by kernel_rfl) rfl #[.int .u64 a0, .int .i64 (wrap64 (a1 + 1))] rfl (by (try simp only [List.map_toArray, List.map_cons, List.map_nil]); first | done | rfl | (simp only [List.length_drop, List.length_take]; rfl)) ?_; (with_reducible refine (bits_ToFixed.calls k a0 (wrap64 (a1 + 1)) t115 true t117 _ A6.out).mono ?_); rintro e wxa46d1 ⟨rfl, hb⟩; refine ⟨_, rfl, ?_⟩; have n0_ := Aside0.mk (below_step (by repeat (first | (with_reducible first | exact HB.out | apply below_alloc | apply pw_below_drewN | apply below_drew1) | exact HB.out)) hb); clear HB; have HB := n0_; clear n0_; (try clear hb); (try clear hb2); (try clear hk); (try clear hi)) | ((with_reducible refine gate_callee (f := 16) rfl ?_); refine goesL_ (some 24) rfl rfl Tryd.func16 (by kernel_rfl) rfl #[.int .u64 a0, .int .i64 (wrap64 (a1 + 1))] rfl (by (try simp only [List.map_toArray, List.map_cons, List.map_nil]); first | done | rfl | (simp only [List.length_drop, List.length_take]; rfl)) ?_; (with_reducible refine (bits_ToFixed.calls k a0 (wrap64 (a1 + 1)) t115 t116 t117 _ A6.out).mono ?_); rintro e wx24b91 ⟨rfl, hb⟩; refine ⟨_, rfl, ?_⟩; have n0_ := Aside0.mk (below_step (by repeat (first | (with_reducible first | exact HB.out | apply below_alloc | apply pw_below_drewN | apply below_drew1) | exact HB.out)) hb); clear HB; have HB := n0_; clear n0_; (try clear hb); (try clear hb2); (try clear hk); (try clear hi)))
  go_ret
  exact ⟨by first | rfl | (simp [errW_none, errW_some] <;> rfl) | (simp [*, errW_none, errW_some] <;> rfl), by repeat (first | (with_reducible first | exact HB.out | apply below_alloc | apply pw_below_drewN | apply below_drew1) | exact HB.out)⟩

/-- THE ONE PURE STATEMENT of skywaykeep1_BitsFloors. -/
def skywaykeep1_BitsFloors.Pure : Prop := ∀ (a0 : Int) (a1 : Int), ((Lit.int .u64 a0).wf = true) → ((Lit.int .i64 a1).wf = true) → ∃ k, skywaykeep1_BitsFloors.f k a0 a1 = some true

end Go.Proofs.YtfchcleochphoaaDoor.PBitsFloors
