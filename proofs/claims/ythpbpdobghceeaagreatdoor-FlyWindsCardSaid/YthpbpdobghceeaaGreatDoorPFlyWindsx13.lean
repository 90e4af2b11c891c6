/- Made by wip/tools/myprint.py (over the kit's printer). -/
import Derived.Test.YthpbpdobghceeaaGreatDoorTSq3
import Derived.Test.YthpbpdobghceeaaGreatDoorPFlyWindsx0
import Derived.Test.YthpbpdobghceeaaGreatDoorPFlyWindsx12
namespace Go.Proofs.YthpbpdobghceeaaGreatDoor.PFlyWinds
open Go.RowKit Go.Proofs.YthpbpdobghceeaaGreatDoorW.PrintWords Go.Proofs.YthpbpdobghceeaaGreatDoorW.PrintLast Go.Proofs.YthpbpdobghceeaaGreatDoorW.PrintMore
attribute [local go_sem] max2_int min2_int max_two min_two max_three min_three max_four min_four
set_option linter.unusedVariables false
set_option maxRecDepth 100000
set_option maxHeartbeats 8000000
set_option linter.unusedSimpArgs false
def angle_Cos.f (a0 : Int) : Option (Int) := (angle_Sin.f (wrap64 (a0 + 1024))).bind fun t260 => (some t260)
theorem angle_Cos.calls (a0 : Int) (r : Int) (w : World) (h : angle_Cos.f a0 = some r) (hT0 : Ang.Tab w := by exact Ang.Tab.below hT0 (by repeat (first | (with_reducible first | exact HB.out | apply below_alloc | apply pw_below_drewN | apply below_drew1) | exact HB.out | (refine Below.setCell ?_ (by dsimp only; exact Aside0.out (by assumption)) _)))) :
    Calls Tryz.prog 100 #[.int .i64 a0] w fun e w' => e = .returned (.int .i64 r) ∧ Below w.heap.size w w' := by
 have HB := Aside0.mk (Below.refl w.heap.size w); have H := h; unfold angle_Cos.f at H; clear h; replace H := Option.bind_eq_some_iff.mp H; obtain ⟨t260, A20, H⟩ := H; (try dsimp only at H); have A2 := Aside0.mk A20; clear A20; obtain rfl := Option.some.inj H; go_enter Tryz.func100, Tryz.ntmps100
 go_wp2_with (first | ((with_reducible refine gate_callee (f := 99) rfl ?_); refine goesL_ (some 5) rfl rfl Tryz.func99 (by kernel_rfl) rfl #[.int .i64 (wrap64 (a0 + 1024))] rfl any_s ?_; (with_reducible refine (angle_Sin.calls (wrap64 (a0 + 1024)) t260 _ A2.out).mono ?_); rintro e w3 ⟨rfl, hb⟩; refine ⟨_, rfl, ?_⟩; replace HB := st HB hb))
 go_ret
 exact ⟨er_, bel_s⟩
def angle_after.f (a0 : Int) (a1_0 : Int) (a1_1 : Int) : Option (Int) := (angle_Cos.f a0).bind fun t262 => ((angle_Sin.f a0).bind fun t263 => (some (wrap64 ((wrap64 (t262 * a1_0)) - (wrap64 (t263 * a1_1))))))
def angle_after.T1 : Bool × List (List Nat × List Nat) := (true, [([], []), ([0], [0]), ([], []), ([2], [2]), ([1, 3], [1, 3]), ([], []), ([5, 1], [5]), ([], []), ([7], [7]), ([6, 8], [6, 8]), ([4, 9], [4, 9]), ([10, 6, 0, 1, 2, 3, 4, 5, 6, 7, 8, 9, 10], [10])])
def angle_after.B1 : List Nat := [0, 1, 0, 4, 15, 0, 35, 0, 128, 483, 1023, 2047]
theorem angle_after.tab1 : rtab .any (opsOf Tryz.f97 1) = angle_after.T1 := by kernel_rfl
theorem angle_after.bits1 : waitsOk angle_after.T1.2 angle_after.B1 = true := by kernel_rfl
theorem angle_after.calls (a0 : Int) (a1_0 : Int) (a1_1 : Int) (r : Int) (w : World) (h : angle_after.f a0 a1_0 a1_1 = some r) (hT0 : Ang.Tab w := by exact Ang.Tab.below hT0 (by repeat (first | (with_reducible first | exact HB.out | apply below_alloc | apply pw_below_drewN | apply below_drew1) | exact HB.out | (refine Below.setCell ?_ (by dsimp only; exact Aside0.out (by assumption)) _)))) :
    Calls Tryz.prog 97 #[.int .i64 a0, .agg #[.int .i64 a1_0, .int .i64 a1_1]] w fun e w' => e = .returned (.int .i64 r) ∧ Below w.heap.size w w' := by
 have hu54 := Tryz.underlying54; have HB := Aside0.mk (Below.refl w.heap.size w); have H := h; unfold angle_after.f at H; clear h; replace H := Option.bind_eq_some_iff.mp H; obtain ⟨t262, A30, H⟩ := H; (try dsimp only at H); have A3 := Aside0.mk A30; clear A30; replace H := Option.bind_eq_some_iff.mp H; obtain ⟨t263, A40, H⟩ := H; (try dsimp only at H); have A4 := Aside0.mk A40; clear A40; obtain rfl := Option.some.inj H; go_enter Tryz.func97, Tryz.ntmps97
 try go_wp2_with (first | ((with_reducible refine gate_dst (N := 3) rfl ?_); refine box_s #[.int .i64 a1_0, .int .i64 a1_1] 54 ?_; intro gb261 hg w5 hbox hb; have BK261 := Aside0.mk (hbox); have GW261 := ge HB hg; have GE261 := ge HB hg; replace HB := st HB hb; clear hb hbox hg))
 replace BK261 := Aside0.mk (blk_drew BK261.out); replace HB := Aside0.mk (below_drew1 HB.out); refine start_ (n := 12) (S := fun w' => w'.cell? ⟨gb261, 0, none⟩ = some (.int .i64 a1_0) ∧ w'.cell? ⟨gb261, 1, none⟩ = some (.int .i64 a1_1)) (ds := []) #[false, false, false, false, false, false, false, false, false, false, false, false] (by kernel_rfl) rfl rfl ⟨(blk_cell BK261.out 0).trans rfl, (blk_cell BK261.out 1).trans rfl⟩ (fun hHeld => ?_); refine with_tabW angle_after.tab1 angle_after.bits1 (fun HT_ HW_ => ?_); generalize w5.drew = w6 at BK261 HB hHeld ⊢; refine pu_ 0 5 HT_ (h := ?_); refine pu_ 2 7 HT_ (h := ?_); refine pu_ 5 10 HT_ (h := ?_); refine pu_ 7 12 HT_ (h := ?_); refine tk_ 3 8 HT_ HW_ hHeld (h := ?_); refine tk_ 8 13 HT_ HW_ hHeld (h := ?_); refine one_ (i := 1) (N := some 6) #[true, true, true, true, false, true, false, true, true, false, false, false] rfl rfl (one_of HT_.out (by kernel_rfl)) (by decide) (fun K hK => ?_); refine goes_ Tryz.func100 (by kernel_rfl) rfl #[.int .i64 a0] (by rfl) rfl rfl any_s ?_; with_reducible refine (angle_Cos.calls a0 t262 _ A3.out).mono ?_; rintro e w7 ⟨rfl, hb⟩; refine ⟨_, rfl, ?_⟩; replace BK261 := kp BK261 hb; replace HB := st HB hb
 refine hK.out _ _ ⟨(blk_cell BK261.out 0).trans rfl, (blk_cell BK261.out 1).trans rfl⟩ (fun hHeld => ?_); clear hK K; refine norm_ (a' := ?_) ?_ ?_; rotate_left
 · show Act.put _ (some 6) _ = _; simp only [Act.put, List.setIfInBounds_toArray, List.set_cons_zero, List.set_cons_succ, i64_w, i32_w]; rfl
 refine pu_ 4 9 HT_ (h := ?_); refine one_ (i := 6) (N := some 11) #[true, true, true, true, true, true, true, true, true, false, false, false] rfl rfl (one_of HT_.out (by kernel_rfl)) (by decide) (fun K hK => ?_); refine goes_ Tryz.func99 (by kernel_rfl) rfl #[.int .i64 a0] (by rfl) rfl rfl any_s ?_; with_reducible refine (angle_Sin.calls a0 t263 _ A4.out).mono ?_; rintro e w8 ⟨rfl, hb⟩; refine ⟨_, rfl, ?_⟩; replace BK261 := kp BK261 hb; replace HB := st HB hb
 refine hK.out _ _ ⟨(blk_cell BK261.out 0).trans rfl, (blk_cell BK261.out 1).trans rfl⟩ (fun hHeld => ?_); clear hK K; refine norm_ (a' := ?_) ?_ ?_; rotate_left
 · show Act.put _ (some 11) _ = _; simp only [Act.put, List.setIfInBounds_toArray, List.set_cons_zero, List.set_cons_succ, i64_w, i32_w]; rfl
 refine pu_ 9 14 HT_ (h := ?_); refine pu_ 10 15 HT_ (h := ?_); refine pu_ 11 4 HT_ (h := ?_); refine done_ (done_of HT_.out (by kernel_rfl)) ?_
 try go_wp2
 go_ret
 exact ⟨er_, bel_s⟩
def angle_Norm.f (a0 : Int) : Option (Int) := some (Go.bits .and .i64 a0 4095)
theorem angle_Norm.calls (a0 : Int) (r : Int) (w : World) (h : angle_Norm.f a0 = some r) :
    Calls Tryz.prog 98 #[.int .i64 a0] w fun e w' => e = .returned (.int .i64 r) ∧ Below w.heap.size w w' := by
 have HB := Aside0.mk (Below.refl w.heap.size w); have H := h; unfold angle_Norm.f at H; clear h; obtain rfl := Option.some.inj H; go_enter Tryz.func98, Tryz.ntmps98; go_wp2; go_ret
 exact ⟨er_, bel_s⟩
end Go.Proofs.YthpbpdobghceeaaGreatDoor.PFlyWinds
