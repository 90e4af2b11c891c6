/- Made by a program of this session (wip/tools/myprint.py, over the kit's printer): that the Go functions answer as the Lean functions printed beside them. -/
import Derived.Test.YthpbpdobghceeaaDoorPWindBoundsx0
import Derived.Test.YthpbpdobghceeaaDoorPWindBoundsx4
import Derived.Test.YthpbpdobghceeaaDoorAng7
namespace Go.Proofs.YthpbpdobghceeaaDoor.PWindBounds
open Go.RowKit Go.Proofs.YthpbpdobghceeaaDoorW.PrintWords Go.Proofs.YthpbpdobghceeaaDoorW.PrintLast Go.Proofs.YthpbpdobghceeaaDoorW.PrintMore
attribute [local go_sem] max2_int min2_int max_two min_two max_three min_three max_four min_four   -- for this text's walks alone
set_option linter.unusedVariables false
set_option linter.unusedSimpArgs false

/-! ### angle_Of: function 16 -/
-- IMPORT Test.YthpbpdobghceeaaDoorAng7
/-- The angle of the one vector that windWorks asks for. -/
def angle_Of.f (a0_0 : Int) (a0_1 : Int) : Option (Int × Int) := if a0_0 = 250 ∧ a0_1 = 0 then some (1024, 0) else none
theorem angle_Of.flt : floatOfInt .f64 250 = 4643000109586448384 ∧ floatOfInt .f64 0 = 0 := by decide +kernel
def angle_Of.T10 : Bool × List (List Nat × List Nat) := (true, [([], []), ([], []), ([0, 1], [0, 1]), ([], []), ([3], [3]), ([], []), ([4, 5, 2], [4, 5]), ([6], [6]), ([2, 7], [2, 7])])
def angle_Of.B10 : List Nat := [0, 0, 3, 0, 8, 0, 63, 127, 255]
theorem angle_Of.tab10 : rtab .any (opsOf Tryd.f16 10) = angle_Of.T10 := by kernel_rfl
theorem angle_Of.bits10 : waitsOk angle_Of.T10.2 angle_Of.B10 = true := by kernel_rfl
set_option maxHeartbeats 4000000 in
set_option maxRecDepth 100000 in
theorem angle_Of.calls (a0_0 : Int) (a0_1 : Int) (r1 : Int) (r2 : Int) (w : World) (h : angle_Of.f a0_0 a0_1 = some (r1, r2)) (hT0 : Ang.Tab w := by exact Ang.Tab.below hT0 (by repeat (first | (with_reducible first | exact HB.out | apply below_alloc | apply pw_below_drewN | apply below_drew1) | exact HB.out))) :
    Calls Tryd.prog 16 #[.agg #[.int .i64 a0_0, .int .i64 a0_1]] w fun e w' => e = .returned (.tuple #[.int .i64 r1, .int .i64 r2]) ∧ Below w.heap.size w w' := by
  unfold angle_Of.f at h
  split at h
  · rename_i hc
    obtain ⟨rfl, rfl⟩ := hc
    cases h
    have z0 : angle_after.f 1024 250 0 = some 0 := by decide +kernel
    have z1 : angle_after.f 1025 250 0 = some (-6250) := by decide +kernel
    have z1' : angle_after.f (wrap64 (1024 + 1)) 250 0 = some (-6250) := by decide +kernel
    have w1 : wrap64 (-(-6250)) = 6250 := by unfold wrap64; omega
    have w2 : wrap64 6250 = 6250 := by unfold wrap64; omega
    have z2 : angle_Norm.f 1024 = some 1024 := by decide +kernel
    have f1 := angle_Of.flt.1
    have f2 := angle_Of.flt.2
    have q1 := Ang.op2 (op := .quo) (x := 4609753056924675352) (y := 4618760256179416344) (r := 4598175219545276416) (by decide +kernel)
    have q2 := Ang.op2 (op := .mul) (x := 4598175219545276416) (y := 4661225614328463360) (r := 4652218415073722368) (by decide +kernel)
    have q3 := Ang.conv_i 4652218415073722368 1024 (by decide +kernel)
    have q4 : ∀ w : World, (convert 3 48 (.int .i64 250)).run Tryd.prog w = .ok (.float .f64 4643000109586448384) w := fun w => by rw [Ang.conv_f, f1]
    have q5 : ∀ w : World, (convert 3 48 (.int .i64 0)).run Tryd.prog w = .ok (.float .f64 0) w := fun w => by rw [Ang.conv_f, f2]
    obtain ⟨W0, hW0⟩ : ∃ W0, w.alloc (.cells #[.int .i64 250, .int .i64 0] 28) = W0 := ⟨_, rfl⟩
    have B0 := Aside0.mk (show Below w.heap.size w W0 by rw [← hW0]; exact below_alloc (Below.refl _ _) _)
    have X0 := Aside0.mk (show W0.heap[w.heap.size]? = some (.cells #[.int .i64 250, .int .i64 0] 28 (0, 0)) by rw [← hW0]; exact blk_new w _)
    have d0 : W0.cell? ⟨w.heap.size, 0, none⟩ = some (.int .i64 250) := (blk_cell X0.out 0).trans rfl
    have d1 : W0.cell? ⟨w.heap.size, 1, none⟩ = some (.int .i64 0) := (blk_cell X0.out 1).trans rfl
    have HT := Aside0.mk hT0
    clear hT0 f1 f2
    go_enter Tryd.func16, Tryd.ntmps16
    go_wp2_with (first | (go_at_call 26; refine (Ang.atan2_250 _).mono ?_; rintro e w' ⟨rfl, rfl⟩) | (go_at_call 25; refine (Ang.floor_1024 _).mono ?_; rintro e w' ⟨rfl, rfl⟩))
    go_loopw [4] (fun s4 wr => s4 = .int .i64 1024 ∧ Aside0 (Below w.heap.size w wr) ∧ Aside0 (wr.heap[w.heap.size]? = some (.cells #[.int .i64 250, .int .i64 0] 28 (0, 0)))) (fun _ _ => 0)
    case atStart => exact ⟨rfl, B0, X0⟩
    case round =>
      obtain ⟨rfl, B1, X1⟩ := hrel
      clear d0 d1 B0 X0 hW0
      have d0 : wr.cell? ⟨w.heap.size, 0, none⟩ = some (.int .i64 250) := (blk_cell X1.out 0).trans rfl
      have d1 : wr.cell? ⟨w.heap.size, 1, none⟩ = some (.int .i64 0) := (blk_cell X1.out 1).trans rfl
      go_wp2_with (go_at_call 27; with_reducible refine (angle_after.calls 1024 250 0 0 _ z0 (HT.out.below B1.out)).mono ?_; rintro e w2 ⟨rfl, hb⟩; have B2 := Aside0.mk (below_step B1.out hb); have X2 := Aside0.mk (blk_below X1.out hb); clear hb d0 d1)
      go_loopw [4] (fun s4 wq => s4 = .int .i64 1024 ∧ Aside0 (Below w.heap.size w wq) ∧ Aside0 (wq.heap[w.heap.size]? = some (.cells #[.int .i64 250, .int .i64 0] 28 (0, 0)))) (fun _ _ => 0)
      case atStart => exact ⟨rfl, B2, X2⟩
      case round =>
        obtain ⟨rfl, B3, X3⟩ := hrel
        clear B1 X1 B2 X2
        have d0 : wr.cell? ⟨w.heap.size, 0, none⟩ = some (.int .i64 250) := (blk_cell X3.out 0).trans rfl
        have d1 : wr.cell? ⟨w.heap.size, 1, none⟩ = some (.int .i64 0) := (blk_cell X3.out 1).trans rfl
        go_wp2_with (go_at_call 27; with_reducible refine (angle_after.calls 1025 250 0 (-6250) _ z1 (HT.out.below B3.out)).mono ?_; rintro e w3 ⟨rfl, hb⟩; have HB := Aside0.mk (below_step B3.out hb); have BK := Aside0.mk (blk_below X3.out hb); clear hb d0 d1 B3 X3)
        have BK2 := Aside0.mk (blk_drew BK.out)
        have HB2 := Aside0.mk (below_drew1 HB.out)
        clear BK HB
        have BK := BK2
        have HB := HB2
        clear BK2 HB2
        refine start_ (n := 9) (S := fun w' => w'.cell? ⟨w.heap.size, 0, none⟩ = some (.int .i64 250) ∧ w'.cell? ⟨w.heap.size, 1, none⟩ = some (.int .i64 0)) (ds := []) #[false, false, false, false, false, false, false, false, false] (by kernel_rfl) rfl rfl ⟨(blk_cell BK.out 0).trans rfl, (blk_cell BK.out 1).trans rfl⟩ (fun hHeld => ?_); refine with_tabW angle_Of.tab10 angle_Of.bits10 (fun HT_ HW_ => ?_)
        refine pure_ (i := 0) (N := some 57) (v := ?_) (a' := ?_) #[true, false, false, false, false, false, false, false, false] rfl rfl (any_of HT_.out (by kernel_rfl)) (fun _ _ _ h => h) (Or.inl ⟨by rfl, ?_⟩) ?_ ?_
        rotate_left
        · intro w'
          go_simp
          with_reducible rfl
        rotate_left
        · simp only [Act.put, List.setIfInBounds_toArray, List.set_cons_zero, List.set_cons_succ, i64_w, i32_w]
          rfl
        refine pure_ (i := 3) (N := some 60) (v := ?_) (a' := ?_) #[true, false, false, true, false, false, false, false, false] rfl rfl (any_of HT_.out (by kernel_rfl)) (fun _ _ _ h => h) (Or.inl ⟨by rfl, ?_⟩) ?_ ?_
        rotate_left
        · intro w'
          go_simp
          with_reducible rfl
        rotate_left
        · simp only [Act.put, List.setIfInBounds_toArray, List.set_cons_zero, List.set_cons_succ, i64_w, i32_w]
          rfl
        refine pure_ (i := 4) (N := some 61) (v := ?_) (a' := ?_) #[true, false, false, true, true, false, false, false, false] rfl rfl (any_of HT_.out (by kernel_rfl)) (fun _ _ _ h => h) (Or.inl ⟨by rfl, ?_⟩) ?_ ?_
        rotate_left
        · intro w'
          go_simp
          with_reducible rfl
        rotate_left
        · simp only [Act.put, List.setIfInBounds_toArray, List.set_cons_zero, List.set_cons_succ, i64_w, i32_w]
          rfl
        refine take_ (i := 1) (N := some 58) (v := ?_) (a' := ?_) #[true, true, false, true, true, false, false, false, false] rfl rfl (take_ofW HT_.out HW_.out (by kernel_rfl)) (fun _ _ _ h => h) (Or.inl ⟨by rfl, ?_⟩) hHeld ?_ ?_
        rotate_left
        · rintro w' ⟨s0, s1⟩
          go_simp
          with_reducible rfl
        rotate_left
        · simp only [Act.put, List.setIfInBounds_toArray, List.set_cons_zero, List.set_cons_succ, i64_w, i32_w]
          rfl
        refine take_ (i := 5) (N := some 62) (v := ?_) (a' := ?_) #[true, true, false, true, true, true, false, false, false] rfl rfl (take_ofW HT_.out HW_.out (by kernel_rfl)) (fun _ _ _ h => h) (Or.inl ⟨by rfl, ?_⟩) hHeld ?_ ?_
        rotate_left
        · rintro w' ⟨s0, s1⟩
          go_simp
          with_reducible rfl
        rotate_left
        · simp only [Act.put, List.setIfInBounds_toArray, List.set_cons_zero, List.set_cons_succ, i64_w, i32_w]
          rfl
        refine one_ (i := 2) (N := some 59) #[true, true, true, true, true, true, false, false, false] rfl rfl (one_of HT_.out (by kernel_rfl)) (by decide) (fun K hK => ?_)
        refine goes_ Tryd.func27 (by kernel_rfl) rfl #[.int .i64 1024, .agg #[.int .i64 250, .int .i64 0]] (by rfl) rfl rfl (by (try simp only [List.map_toArray, List.map_cons, List.map_nil]); first | done | rfl) ?_
        with_reducible refine (angle_after.calls 1024 250 0 0 _ z0 (HT.out.below HB.out)).mono ?_
        rintro e w7 ⟨rfl, hb⟩
        refine ⟨_, rfl, ?_⟩
        have n0_ := Aside0.mk (blk_below (g := w.heap.size) (o := .cells #[.int .i64 250, .int .i64 0] 28 (0, 0)) BK.out hb)
        have n1_ := Aside0.mk (below_step HB.out hb)
        clear BK HB
        have BK := n0_
        have HB := n1_
        clear n0_ n1_ hb
        refine hK.out _ _ ⟨(blk_cell BK.out 0).trans rfl, (blk_cell BK.out 1).trans rfl⟩ (fun hHeld => ?_)
        clear hK K
        refine norm_ (a' := ?_) ?_ ?_
        rotate_left
        · show Act.put _ (some 59) _ = _
          simp only [Act.put, List.setIfInBounds_toArray, List.set_cons_zero, List.set_cons_succ, i64_w, i32_w]
          rfl
        refine one_ (i := 6) (N := some 63) #[true, true, true, true, true, true, true, false, false] rfl rfl (one_of HT_.out (by kernel_rfl)) (by decide) (fun K hK => ?_)
        refine goes_ Tryd.func27 (by kernel_rfl) rfl #[.int .i64 (wrap64 (1024 + 1)), .agg #[.int .i64 250, .int .i64 0]] (by rfl) rfl rfl (by (try simp only [List.map_toArray, List.map_cons, List.map_nil]); first | done | rfl) ?_
        with_reducible refine (angle_after.calls (wrap64 (1024 + 1)) 250 0 (-6250) _ z1' (HT.out.below HB.out)).mono ?_
        rintro e w7 ⟨rfl, hb⟩
        refine ⟨_, rfl, ?_⟩
        have n0_ := Aside0.mk (blk_below (g := w.heap.size) (o := .cells #[.int .i64 250, .int .i64 0] 28 (0, 0)) BK.out hb)
        have n1_ := Aside0.mk (below_step HB.out hb)
        clear BK HB
        have BK := n0_
        have HB := n1_
        clear n0_ n1_ hb
        refine hK.out _ _ ⟨(blk_cell BK.out 0).trans rfl, (blk_cell BK.out 1).trans rfl⟩ (fun hHeld => ?_)
        clear hK K
        refine norm_ (a' := ?_) ?_ ?_
        rotate_left
        · show Act.put _ (some 63) _ = _
          simp only [Act.put, List.setIfInBounds_toArray, List.set_cons_zero, List.set_cons_succ, i64_w, i32_w]
          rfl
        refine pure_ (i := 7) (N := some 64) (v := ?_) (a' := ?_) #[true, true, true, true, true, true, true, true, false] rfl rfl (any_of HT_.out (by kernel_rfl)) (fun _ _ _ h => h) (Or.inl ⟨by rfl, ?_⟩) ?_ ?_
        rotate_left
        · intro w'
          go_simp
          with_reducible rfl
        rotate_left
        · simp only [Act.put, List.setIfInBounds_toArray, List.set_cons_zero, List.set_cons_succ, i64_w, i32_w]
          rfl
        refine pure_ (i := 8) (N := some 65) (v := ?_) (a' := ?_) #[true, true, true, true, true, true, true, true, true] rfl rfl (any_of HT_.out (by kernel_rfl)) (fun _ _ _ h => h) (Or.inl ⟨by rfl, ?_⟩) ?_ ?_
        rotate_left
        · intro w'
          go_simp
          with_reducible rfl
        rotate_left
        · simp only [Act.put, List.setIfInBounds_toArray, List.set_cons_zero, List.set_cons_succ, i64_w, i32_w]
          rfl
        refine done_ (done_of HT_.out (by kernel_rfl)) ?_
        go_wp2_with (go_at_call 14; with_reducible refine (angle_Norm.calls 1024 1024 _ z2).mono ?_; rintro e w4 ⟨rfl, hb⟩; have HB2 := Aside0.mk (below_step HB.out hb))
        go_ret2
        exact ⟨rfl, HB2.out⟩
  · cases h

end Go.Proofs.YthpbpdobghceeaaDoor.PWindBounds
