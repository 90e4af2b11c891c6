/- Made by a program of this session (wip/tools/myprint.py, over the kit's printer): that the Go functions answer as the Lean functions printed beside them. -/
import Derived.Test.YtaahnfajcbkknaaPNumSamex0
import Derived.Test.YtaahnfajcbkknaaPNumSamex1
namespace Go.Proofs.Ytaahnfajcbkknaa.PNumSame
open Go.RowKit Go.Proofs.YtaahnfajcbkknaaW.PrintWords Go.Proofs.YtaahnfajcbkknaaW.PrintLast Go.Proofs.YtaahnfajcbkknaaW.PrintMore
attribute [local go_sem] max2_int min2_int max_two min_two max_three min_three max_four min_four   -- for this text's walks alone
set_option linter.unusedVariables false
set_option linter.unusedSimpArgs false

/-! ### skywaykeep1_NumSame: function 12 -/
def skywaykeep1_NumSame.f (k : Nat) (a0 : Int) (a1 : Int) : Option (Bool) := (skywaykeep1_numWorks.f k).bind fun t118 => (if t118 = true then ((num_DivDown.f k a0 a1).bind fun bt119 => ((num_MulDiv.f k a0 1 a1).bind fun bt121 => ((num_MulDiv.f k 1 a0 a1).bind fun bt123 => (if bt119.2 = bt121.2 then (if bt119.1 = bt121.1 then (if bt121.2 = bt123.2 then (some (bt121.1 == bt123.1)) else (some false)) else (some false)) else (some false))))) else (some false))
theorem skywaykeep1_NumSame.mono : ∀ a0 a1 k, LeO (skywaykeep1_NumSame.f k a0 a1) (skywaykeep1_NumSame.f (k + 1) a0 a1) := by
  intro a0 a1 k
  unfold skywaykeep1_NumSame.f
  repeat' first
      | (with_reducible exact num_DivDown.mono _ _ _)
      | (with_reducible exact num_MulDiv.mono _ _ _ _)
      | (with_reducible exact skywaykeep1_numWorks.mono _)
      | (with_reducible exact LeO.refl _)
      | (with_reducible exact LeO.none _)
      | (with_reducible refine LeO.ite ?_ ?_)
      | (with_reducible refine LeO.bind ?_ (fun _ => ?_))
      | exact num_DivDown.mono _ _ _
      | exact num_MulDiv.mono _ _ _ _
      | exact skywaykeep1_numWorks.mono _
      | exact LeO.none _
      | refine LeO.ite ?_ ?_
      | refine LeO.bind ?_ (fun _ => ?_)
set_option maxHeartbeats 8000000 in
set_option maxRecDepth 100000 in
theorem skywaykeep1_NumSame.calls (k : Nat) (a0 : Int) (a1 : Int) (r : Bool) (w : World) (h : skywaykeep1_NumSame.f k a0 a1 = some r) :
    Calls Try.prog 12 #[.int .i64 a0, .int .i64 a1] w fun e w' => e = .returned (.bool r) ∧ Below w.heap.size w w' := by
 have HB := Aside0.mk (Below.refl w.heap.size w)
 have H : ((skywaykeep1_numWorks.f k).bind fun t118 => (if t118 = true then ((num_DivDown.f k a0 a1).bind fun bt119 => ((num_MulDiv.f k a0 1 a1).bind fun bt121 => ((num_MulDiv.f k 1 a0 a1).bind fun bt123 => (if bt119.2 = bt121.2 then (if bt119.1 = bt121.1 then (if bt121.2 = bt123.2 then (some (bt121.1 == bt123.1)) else (some false)) else (some false)) else (some false))))) else (some false))) = some r := h
 clear h
 replace H := Option.bind_eq_some_iff.mp H
 obtain ⟨t118, A30, H⟩ := H
 replace H : (if t118 = true then ((num_DivDown.f k a0 a1).bind fun bt119 => ((num_MulDiv.f k a0 1 a1).bind fun bt121 => ((num_MulDiv.f k 1 a0 a1).bind fun bt123 => (if bt119.2 = bt121.2 then (if bt119.1 = bt121.1 then (if bt121.2 = bt123.2 then (some (bt121.1 == bt123.1)) else (some false)) else (some false)) else (some false))))) else (some false)) = some r := H
 have A3 := Aside0.mk A30
 clear A30
 refine Or.elim (Classical.em (t118 = true)) (fun c4 => ?p2_) (fun c4 => ?n2_)
 case' p2_ =>
  subst c4
  have H1 : ((num_DivDown.f k a0 a1).bind fun bt119 => ((num_MulDiv.f k a0 1 a1).bind fun bt121 => ((num_MulDiv.f k 1 a0 a1).bind fun bt123 => (if bt119.2 = bt121.2 then (if bt119.1 = bt121.1 then (if bt121.2 = bt123.2 then (some (bt121.1 == bt123.1)) else (some false)) else (some false)) else (some false))))) = some r := by rw [if_pos rfl] at H; exact H
  clear H
  have H := H1
  clear H1
  replace H := Option.bind_eq_some_iff.mp H
  obtain ⟨⟨t119, t120⟩, A50, H⟩ := H
  replace H : ((num_MulDiv.f k a0 1 a1).bind fun bt121 => ((num_MulDiv.f k 1 a0 a1).bind fun bt123 => (if t120 = bt121.2 then (if t119 = bt121.1 then (if bt121.2 = bt123.2 then (some (bt121.1 == bt123.1)) else (some false)) else (some false)) else (some false)))) = some r := H
  have A5 := Aside0.mk A50
  clear A50
  replace H := Option.bind_eq_some_iff.mp H
  obtain ⟨⟨t121, t122⟩, A60, H⟩ := H
  replace H : ((num_MulDiv.f k 1 a0 a1).bind fun bt123 => (if t120 = t122 then (if t119 = t121 then (if t122 = bt123.2 then (some (t121 == bt123.1)) else (some false)) else (some false)) else (some false))) = some r := H
  have A6 := Aside0.mk A60
  clear A60
  replace H := Option.bind_eq_some_iff.mp H
  obtain ⟨⟨t123, t124⟩, A70, H⟩ := H
  replace H : (if t120 = t122 then (if t119 = t121 then (if t122 = t124 then (some (t121 == t123)) else (some false)) else (some false)) else (some false)) = some r := H
  have A7 := Aside0.mk A70
  clear A70
  refine Or.elim (Classical.em (t120 = t122)) (fun c8 => ?p3_) (fun c8 => ?n3_)
  case' p3_ =>
   rw [if_pos c8] at H
   have c8b0 : (t120 == t122) = true := beq_iff_eq.mpr c8
   have c8b1 : (t120 != t122) = false := bne_eq_false_iff_eq.mpr c8
   clear c8
   refine Or.elim (Classical.em (t119 = t121)) (fun c9 => ?p4_) (fun c9 => ?n4_)
   case' p4_ =>
    rw [if_pos c9] at H
    have c9b0 : (t119 == t121) = true := beq_iff_eq.mpr c9
    have c9b1 : (t119 != t121) = false := bne_eq_false_iff_eq.mpr c9
    clear c9
    refine Or.elim (Classical.em (t122 = t124)) (fun c10 => ?p5_) (fun c10 => ?n5_)
    case' p5_ =>
     rw [if_pos c10] at H
     have c10b0 : (t122 == t124) = true := beq_iff_eq.mpr c10
     have c10b1 : (t122 != t124) = false := bne_eq_false_iff_eq.mpr c10
     clear c10
    case' n5_ =>
     rw [if_neg c10] at H
     have c10b0 : (t122 == t124) = false := beq_eq_false_iff_ne.mpr c10
     have c10b1 : (t122 != t124) = true := bne_iff_ne.mpr c10
   case' n4_ =>
    rw [if_neg c9] at H
    have c9b0 : (t119 == t121) = false := beq_eq_false_iff_ne.mpr c9
    have c9b1 : (t119 != t121) = true := bne_iff_ne.mpr c9
  case' n3_ =>
   rw [if_neg c8] at H
   have c8b0 : (t120 == t122) = false := beq_eq_false_iff_ne.mpr c8
   have c8b1 : (t120 != t122) = true := bne_iff_ne.mpr c8
 case' n2_ =>
  replace c4 := Bool.eq_false_iff.mpr c4
  subst c4
  have H1 : (some false) = some r := by rw [if_neg (show ¬ (false = true) by decide)] at H; exact H
  clear H
  have H := H1
  clear H1
 all_goals
  obtain rfl := Option.some.inj H
  go_enter Try.func12, Try.ntmps12
  go_wp2_with (first | ((with_reducible refine gate_callee (f := 15) rfl ?_); refine goesL_ (some 11) rfl rfl Try.func15 (by kernel_rfl) rfl #[] rfl (by (try simp only [List.map_toArray, List.map_cons, List.map_nil]); first | done | rfl | (simp only [List.length_drop, List.length_take]; rfl)) ?_; (with_reducible refine (skywaykeep1_numWorks.calls k  false _ A3.out).mono ?_); rintro e wx99c41 ⟨rfl, hb⟩; refine ⟨_, rfl, ?_⟩; have n0_ := Aside0.mk (below_step (by repeat (first | (with_reducible first | exact HB.out | apply below_alloc | apply pw_below_drewN | apply below_drew1) | exact HB.out)) hb); clear HB; have HB := n0_; clear n0_; (try clear hb); (try clear hb2); (try clear hk); (try clear hi)) | ((with_reducible refine gate_callee (f := 15) rfl ?_); refine goesL_ (some 11) rfl rfl Try.func15 (by kernel_rfl) rfl #[] rfl (by (try simp only [List.map_toArray, List.map_cons, List.map_nil]); first | done | rfl | (simp only [List.length_drop, List.length_take]; rfl)) ?_; (with_reducible refine (skywaykeep1_numWorks.calls k  true _ A3.out).mono ?_); rintro e wxbbad1 ⟨rfl, hb⟩; refine ⟨_, rfl, ?_⟩; have n0_ := Aside0.mk (below_step (by repeat (first | (with_reducible first | exact HB.out | apply below_alloc | apply pw_below_drewN | apply below_drew1) | exact HB.out)) hb); clear HB; have HB := n0_; clear n0_; (try clear hb); (try clear hb2); (try clear hk); (try clear hi)) | ((with_reducible refine gate_callee (f := 16) rfl ?_); refine goesL_ (some 16) rfl rfl Try.func16 (by kernel_rfl) rfl #[.int .i64 a0, .int .i64 a1] rfl (by (try simp only [List.map_toArray, List.map_cons, List.map_nil]); first | done | rfl | (simp only [List.length_drop, List.length_take]; rfl)) ?_; (with_reducible refine (num_DivDown.calls k a0 a1 t119 t120 _ A5.out).mono ?_); rintro e wx93711 ⟨rfl, hb⟩; refine ⟨_, rfl, ?_⟩; have n0_ := Aside0.mk (below_step (by repeat (first | (with_reducible first | exact HB.out | apply below_alloc | apply pw_below_drewN | apply below_drew1) | exact HB.out)) hb); clear HB; have HB := n0_; clear n0_; (try clear hb); (try clear hb2); (try clear hk); (try clear hi)) | ((with_reducible refine gate_callee (f := 38) rfl ?_); refine goesL_ (some 22) rfl rfl Try.func38 (by kernel_rfl) rfl #[.int .i64 a0, .int .i64 1, .int .i64 a1] rfl (by (try simp only [List.map_toArray, List.map_cons, List.map_nil]); first | done | rfl | (simp only [List.length_drop, List.length_take]; rfl)) ?_; (with_reducible refine (num_MulDiv.calls k a0 1 a1 t121 t122 _ A6.out).mono ?_); rintro e wx76841 ⟨rfl, hb⟩; refine ⟨_, rfl, ?_⟩; have n0_ := Aside0.mk (below_step (by repeat (first | (with_reducible first | exact HB.out | apply below_alloc | apply pw_below_drewN | apply below_drew1) | exact HB.out)) hb); clear HB; have HB := n0_; clear n0_; (try clear hb); (try clear hb2); (try clear hk); (try clear hi)) | ((with_reducible refine gate_callee (f := 38) rfl ?_); refine goesL_ (some 28) rfl rfl Try.func38 (by kernel_rfl) rfl #[.int .i64 1, .int .i64 a0, .int .i64 a1] rfl (by (try simp only [List.map_toArray, List.map_cons, List.map_nil]); first | done | rfl | (simp only [List.length_drop, List.length_take]; rfl)) ?_; (with_reducible refine (num_MulDiv.calls k 1 a0 a1 t123 t124 _ A7.out).mono ?_); rintro e wx2a7b1 ⟨rfl, hb⟩; refine ⟨_, rfl, ?_⟩; have n0_ := Aside0.mk (below_step (by repeat (first | (with_reducible first | exact HB.out | apply below_alloc | apply pw_below_drewN | apply below_drew1) | exact HB.out)) hb); clear HB; have HB := n0_; clear n0_; (try clear hb); (try clear hb2); (try clear hk); (try clear hi)))
  go_ret
  exact ⟨by first | rfl | (simp [errW_none, errW_some] <;> rfl) | (simp [*, errW_none, errW_some] <;> rfl), by repeat (first | (with_reducible first | exact HB.out | apply below_alloc | apply pw_below_drewN | apply below_drew1) | exact HB.out)⟩

/-- THE ONE PURE STATEMENT of skywaykeep1_NumSame. -/
def skywaykeep1_NumSame.Pure : Prop := ∀ (a0 : Int) (a1 : Int), ((Lit.int .i64 a0).wf = true) → ((Lit.int .i64 a1).wf = true) → ∃ k, skywaykeep1_NumSame.f k a0 a1 = some true

end Go.Proofs.Ytaahnfajcbkknaa.PNumSame
