/- Made by a program of this session (wip/tools/myprint.py, over the kit's printer): that the Go functions answer as the Lean functions printed beside them. -/
import Derived.Test.YtbpbpojnfhhbjaaTSq2
import Derived.Test.YtbpbpojnfhhbjaaPRouteCrossedx0
import Derived.Test.YtbpbpojnfhhbjaaPRouteCrossedx9
namespace Go.Proofs.Ytbpbpojnfhhbjaa.PRouteCrossed
open Go.RowKit Go.Proofs.YtbpbpojnfhhbjaaW.PrintWords Go.Proofs.YtbpbpojnfhhbjaaW.PrintLast Go.Proofs.YtbpbpojnfhhbjaaW.PrintMore
attribute [local go_sem] max2_int min2_int max_two min_two max_three min_three max_four min_four   -- for this text's walks alone
set_option linter.unusedVariables false
set_option linter.unusedSimpArgs false

/-! ### plane_Turn: function 106 -/
def plane_Turn.f (a0_0 : Int) (a0_1 : Int) (a1_0 : Int) (a1_1 : Int) (a2_0 : Int) (a2_1 : Int) : Option (Int) := (plane_Sub.f a1_0 a1_1 a0_0 a0_1).bind fun bt306 => ((plane_Sub.f a2_0 a2_1 a0_0 a0_1).bind fun bt308 => ((plane_Cross.f bt306.1 bt306.2 bt308.1 bt308.2).bind fun t310 => (if t310 > 0 then (some 1) else (if t310 < 0 then (some (-1)) else (some 0)))))
def plane_Turn.T1 : Bool × List (List Nat × List Nat) := (true, [([], []), ([], []), ([0, 1], [0, 1]), ([], []), ([], []), ([3, 4, 2], [3, 4]), ([2, 5, 5], [2, 5]), ([6, 6, 0, 1, 2, 3, 4, 5, 6], [6])])
def plane_Turn.B1 : List Nat := [0, 0, 3, 0, 0, 31, 63, 127]
theorem plane_Turn.tab1 : rtab .any (opsOf Try.f106 1) = plane_Turn.T1 := by kernel_rfl
theorem plane_Turn.bits1 : waitsOk plane_Turn.T1.2 plane_Turn.B1 = true := by kernel_rfl
set_option maxHeartbeats 8000000 in
set_option maxRecDepth 100000 in
theorem plane_Turn.calls (a0_0 : Int) (a0_1 : Int) (a1_0 : Int) (a1_1 : Int) (a2_0 : Int) (a2_1 : Int) (r : Int) (w : World) (h : plane_Turn.f a0_0 a0_1 a1_0 a1_1 a2_0 a2_1 = some r) :
    Calls Try.prog 106 #[.agg #[.int .i64 a0_0, .int .i64 a0_1], .agg #[.int .i64 a1_0, .int .i64 a1_1], .agg #[.int .i64 a2_0, .int .i64 a2_1]] w fun e w' => e = .returned (.int .i64 r) ∧ Below w.heap.size w w' := by
 have hu36 := Try.underlying36; have HB := Aside0.mk (Below.refl w.heap.size w); have H : ((plane_Sub.f a1_0 a1_1 a0_0 a0_1).bind fun bt306 => ((plane_Sub.f a2_0 a2_1 a0_0 a0_1).bind fun bt308 => ((plane_Cross.f bt306.1 bt306.2 bt308.1 bt308.2).bind fun t310 => (if t310 > 0 then (some 1) else (if t310 < 0 then (some (-1)) else (some 0)))))) = some r := h; clear h; replace H := Option.bind_eq_some_iff.mp H; obtain ⟨⟨t306, t307⟩, A40, H⟩ := H; replace H : ((plane_Sub.f a2_0 a2_1 a0_0 a0_1).bind fun bt308 => ((plane_Cross.f t306 t307 bt308.1 bt308.2).bind fun t310 => (if t310 > 0 then (some 1) else (if t310 < 0 then (some (-1)) else (some 0))))) = some r := H; have A4 := Aside0.mk A40; clear A40; replace H := Option.bind_eq_some_iff.mp H; obtain ⟨⟨t308, t309⟩, A50, H⟩ := H; replace H : ((plane_Cross.f t306 t307 t308 t309).bind fun t310 => (if t310 > 0 then (some 1) else (if t310 < 0 then (some (-1)) else (some 0)))) = some r := H; have A5 := Aside0.mk A50; clear A50; replace H := Option.bind_eq_some_iff.mp H; obtain ⟨t310, A60, H⟩ := H; replace H : (if t310 > 0 then (some 1) else (if t310 < 0 then (some (-1)) else (some 0))) = some r := H; have A6 := Aside0.mk A60; clear A60; refine Or.elim (Classical.em (t310 > 0)) (fun c7 => ?p2_) (fun c7 => ?n2_)
 case' p2_ =>
  rw [if_pos c7] at H; have c7b0 : decide (0 < t310) = true := decide_eq_true c7; clear c7
 case' n2_ =>
  rw [if_neg c7] at H; have c7b0 : decide (0 < t310) = false := decide_eq_false c7; clear c7; refine Or.elim (Classical.em (t310 < 0)) (fun c15 => ?p3_) (fun c15 => ?n3_)
  case' p3_ =>
   rw [if_pos c15] at H; have c15b0 : decide (t310 < 0) = true := decide_eq_true c15; clear c15
  case' n3_ =>
   rw [if_neg c15] at H; have c15b0 : decide (t310 < 0) = false := decide_eq_false c15; clear c15
 all_goals
  obtain rfl := Option.some.inj H; go_enter Try.func106, Try.ntmps106
  try go_wp2_with (first | ((with_reducible refine gate_dst (N := 3) rfl ?_); refine box_s #[.int .i64 a0_0, .int .i64 a0_1] 36 ?_; intro gb303 hg wx8e101 hbox hb; have n0_ := st HB hb; have n1_ := Aside0.mk (hbox); have n2_ := ge HB hg; have n3_ := ge HB hg; clear HB; have HB := n0_; have BK303 := n1_; have GW303 := n2_; have GE303 := n3_; clear n0_ n1_ n2_ n3_; clear hb hbox hg) | ((with_reducible refine gate_dst (N := 4) rfl ?_); refine box_s #[.int .i64 a1_0, .int .i64 a1_1] 36 ?_; intro gb304 hg wx5a141 hbox hb; have n0_ := kp BK303 hb; have n1_ := st HB hb; have n2_ := Aside0.mk (hbox); have n3_ := ge HB hg; have n4_ := ge HB hg; have n5_ := nl BK303 hg; have n6_ := nr BK303 hg; clear BK303; clear HB; have BK303 := n0_; have HB := n1_; have BK304 := n2_; have GW304 := n3_; have GE304 := n4_; have NB303_304 := n5_; have NB304_303 := n6_; clear n0_ n1_ n2_ n3_ n4_ n5_ n6_; clear hb hbox hg) | ((with_reducible refine gate_dst (N := 5) rfl ?_); refine box_s #[.int .i64 a2_0, .int .i64 a2_1] 36 ?_; intro gb305 hg wxa46c1 hbox hb; have n0_ := kp BK303 hb; have n1_ := kp BK304 hb; have n2_ := st HB hb; have n3_ := Aside0.mk (hbox); have n4_ := ge HB hg; have n5_ := ge HB hg; have n6_ := nl BK303 hg; have n7_ := nr BK303 hg; have n8_ := nl BK304 hg; have n9_ := nr BK304 hg; clear BK303; clear BK304; clear HB; have BK303 := n0_; have BK304 := n1_; have HB := n2_; have BK305 := n3_; have GW305 := n4_; have GE305 := n5_; have NB303_305 := n6_; have NB305_303 := n7_; have NB304_305 := n8_; have NB305_304 := n9_; clear n0_ n1_ n2_ n3_ n4_ n5_ n6_ n7_ n8_ n9_; clear hb hbox hg))
  have n0_ := Aside0.mk (blk_drew BK303.out); have n1_ := Aside0.mk (blk_drew BK304.out); have n2_ := Aside0.mk (blk_drew BK305.out); have n3_ := Aside0.mk (below_drew1 HB.out); clear BK303; clear BK304; clear BK305; clear HB; have BK303 := n0_; have BK304 := n1_; have BK305 := n2_; have HB := n3_; clear n0_ n1_ n2_ n3_; refine start_ (n := 8) (S := fun w' => w'.cell? ⟨gb304, 0, none⟩ = some (.int .i64 a1_0) ∧ w'.cell? ⟨gb304, 1, none⟩ = some (.int .i64 a1_1) ∧ w'.cell? ⟨gb303, 0, none⟩ = some (.int .i64 a0_0) ∧ w'.cell? ⟨gb303, 1, none⟩ = some (.int .i64 a0_1) ∧ w'.cell? ⟨gb305, 0, none⟩ = some (.int .i64 a2_0) ∧ w'.cell? ⟨gb305, 1, none⟩ = some (.int .i64 a2_1)) (ds := []) #[false, false, false, false, false, false, false, false] (by kernel_rfl) rfl rfl ⟨bc BK304 0, bc BK304 1, bc BK303 0, bc BK303 1, bc BK305 0, bc BK305 1⟩ (fun hHeld => ?_); refine with_tabW plane_Turn.tab1 plane_Turn.bits1 (fun HT_ HW_ => ?_); generalize wxa46c1.drew = wza1 at BK303 BK304 BK305 HB hHeld ⊢; refine tk_ 0 8 HT_ HW_ hHeld (h := ?_); refine tk_ 1 9 HT_ HW_ hHeld (h := ?_); refine tk_ 3 11 HT_ HW_ hHeld (h := ?_); refine tk_ 4 12 HT_ HW_ hHeld (h := ?_); refine one_ (i := 2) (N := some 10) #[true, true, true, true, true, false, false, false] rfl rfl (one_of HT_.out (by kernel_rfl)) (by decide) (fun K hK => ?_); refine goes_ Try.func58 (by kernel_rfl) rfl #[.agg #[.int .i64 a1_0, .int .i64 a1_1], .agg #[.int .i64 a0_0, .int .i64 a0_1]] (by rfl) rfl rfl any_s ?_; with_reducible refine (plane_Sub.calls a1_0 a1_1 a0_0 a0_1 t306 t307 _ A4.out).mono ?_; rintro e wza2 ⟨rfl, hb⟩; refine ⟨_, rfl, ?_⟩; have n0_ := kp BK303 hb; have n1_ := kp BK304 hb; have n2_ := kp BK305 hb; have n3_ := st HB hb; clear BK303; clear BK304; clear BK305; clear HB; have BK303 := n0_; have BK304 := n1_; have BK305 := n2_; have HB := n3_; clear n0_ n1_ n2_ n3_
  (try clear hb)
  (try clear hb2)
  (try clear hk)
  (try clear hi)
  refine hK.out _ _ ⟨bc BK304 0, bc BK304 1, bc BK303 0, bc BK303 1, bc BK305 0, bc BK305 1⟩ (fun hHeld => ?_); clear hK K; refine norm_ (a' := ?_) ?_ ?_; rotate_left
  · show Act.put _ (some 10) _ = _; simp only [Act.put, List.setIfInBounds_toArray, List.set_cons_zero, List.set_cons_succ, i64_w, i32_w]; rfl
  refine one_ (i := 5) (N := some 13) #[true, true, true, true, true, true, false, false] rfl rfl (one_of HT_.out (by kernel_rfl)) (by decide) (fun K hK => ?_); refine goes_ Try.func58 (by kernel_rfl) rfl #[.agg #[.int .i64 a2_0, .int .i64 a2_1], .agg #[.int .i64 a0_0, .int .i64 a0_1]] (by rfl) rfl rfl any_s ?_; with_reducible refine (plane_Sub.calls a2_0 a2_1 a0_0 a0_1 t308 t309 _ A5.out).mono ?_; rintro e wza3 ⟨rfl, hb⟩; refine ⟨_, rfl, ?_⟩; have n0_ := kp BK303 hb; have n1_ := kp BK304 hb; have n2_ := kp BK305 hb; have n3_ := st HB hb; clear BK303; clear BK304; clear BK305; clear HB; have BK303 := n0_; have BK304 := n1_; have BK305 := n2_; have HB := n3_; clear n0_ n1_ n2_ n3_
  (try clear hb)
  (try clear hb2)
  (try clear hk)
  (try clear hi)
  refine hK.out _ _ ⟨bc BK304 0, bc BK304 1, bc BK303 0, bc BK303 1, bc BK305 0, bc BK305 1⟩ (fun hHeld => ?_); clear hK K; refine norm_ (a' := ?_) ?_ ?_; rotate_left
  · show Act.put _ (some 13) _ = _; simp only [Act.put, List.setIfInBounds_toArray, List.set_cons_zero, List.set_cons_succ, i64_w, i32_w]; rfl
  refine one_ (i := 6) (N := some 14) #[true, true, true, true, true, true, true, false] rfl rfl (one_of HT_.out (by kernel_rfl)) (by decide) (fun K hK => ?_); refine goes_ Try.func139 (by kernel_rfl) rfl #[.agg #[.int .i64 t306, .int .i64 t307], .agg #[.int .i64 t308, .int .i64 t309]] (by rfl) rfl rfl any_s ?_; with_reducible refine (plane_Cross.calls t306 t307 t308 t309 t310 _ A6.out).mono ?_; rintro e wza4 ⟨rfl, hb⟩; refine ⟨_, rfl, ?_⟩; have n0_ := kp BK303 hb; have n1_ := kp BK304 hb; have n2_ := kp BK305 hb; have n3_ := st HB hb; clear BK303; clear BK304; clear BK305; clear HB; have BK303 := n0_; have BK304 := n1_; have BK305 := n2_; have HB := n3_; clear n0_ n1_ n2_ n3_
  (try clear hb)
  (try clear hb2)
  (try clear hk)
  (try clear hi)
  refine hK.out _ _ ⟨bc BK304 0, bc BK304 1, bc BK303 0, bc BK303 1, bc BK305 0, bc BK305 1⟩ (fun hHeld => ?_); clear hK K; refine norm_ (a' := ?_) ?_ ?_; rotate_left
  · show Act.put _ (some 14) _ = _; simp only [Act.put, List.setIfInBounds_toArray, List.set_cons_zero, List.set_cons_succ, i64_w, i32_w]; rfl
  refine pu_ 7 7 HT_ (h := ?_); refine done_ (done_of HT_.out (by kernel_rfl)) ?_
  try go_wp2
  go_ret
  exact ⟨by first | rfl | (simp [errW_none, errW_some] <;> rfl) | (simp [*, errW_none, errW_some] <;> rfl), by repeat (first | (with_reducible first | exact HB.out | apply below_alloc | apply pw_below_drewN | apply below_drew1 | refine below_set ?_ GE303.out | refine below_set ?_ GE304.out | refine below_set ?_ GE305.out) | exact HB.out)⟩

/-! ### polygon_on: function 108 -/
def polygon_on.f (a0_0 : Int) (a0_1 : Int) (a1_0 : Int) (a1_1 : Int) (a2_0 : Int) (a2_1 : Int) : Option (Bool) := (plane_Sub.f a0_0 a0_1 a2_0 a2_1).bind fun bt314 => ((plane_Sub.f a1_0 a1_1 a2_0 a2_1).bind fun bt316 => ((plane_Dot.f bt314.1 bt314.2 bt316.1 bt316.2).bind fun t318 => (some (decide (t318 ≤ 0)))))
def polygon_on.T1 : Bool × List (List Nat × List Nat) := (true, [([], []), ([], []), ([0, 1], [0, 1]), ([], []), ([], []), ([3, 4, 2], [3, 4]), ([2, 5, 5], [2, 5]), ([6], [6]), ([7, 6, 0, 1, 2, 3, 4, 5, 6, 7], [7])])
def polygon_on.B1 : List Nat := [0, 0, 3, 0, 0, 31, 63, 127, 255]
theorem polygon_on.tab1 : rtab .any (opsOf Try.f108 1) = polygon_on.T1 := by kernel_rfl
theorem polygon_on.bits1 : waitsOk polygon_on.T1.2 polygon_on.B1 = true := by kernel_rfl
set_option maxHeartbeats 8000000 in
set_option maxRecDepth 100000 in
theorem polygon_on.calls (a0_0 : Int) (a0_1 : Int) (a1_0 : Int) (a1_1 : Int) (a2_0 : Int) (a2_1 : Int) (r : Bool) (w : World) (h : polygon_on.f a0_0 a0_1 a1_0 a1_1 a2_0 a2_1 = some r) :
    Calls Try.prog 108 #[.agg #[.int .i64 a0_0, .int .i64 a0_1], .agg #[.int .i64 a1_0, .int .i64 a1_1], .agg #[.int .i64 a2_0, .int .i64 a2_1]] w fun e w' => e = .returned (.bool r) ∧ Below w.heap.size w w' := by
 have hu36 := Try.underlying36; have HB := Aside0.mk (Below.refl w.heap.size w); have H : ((plane_Sub.f a0_0 a0_1 a2_0 a2_1).bind fun bt314 => ((plane_Sub.f a1_0 a1_1 a2_0 a2_1).bind fun bt316 => ((plane_Dot.f bt314.1 bt314.2 bt316.1 bt316.2).bind fun t318 => (some (decide (t318 ≤ 0)))))) = some r := h; clear h; replace H := Option.bind_eq_some_iff.mp H; obtain ⟨⟨t314, t315⟩, A40, H⟩ := H; replace H : ((plane_Sub.f a1_0 a1_1 a2_0 a2_1).bind fun bt316 => ((plane_Dot.f t314 t315 bt316.1 bt316.2).bind fun t318 => (some (decide (t318 ≤ 0))))) = some r := H; have A4 := Aside0.mk A40; clear A40; replace H := Option.bind_eq_some_iff.mp H; obtain ⟨⟨t316, t317⟩, A50, H⟩ := H; replace H : ((plane_Dot.f t314 t315 t316 t317).bind fun t318 => (some (decide (t318 ≤ 0)))) = some r := H; have A5 := Aside0.mk A50; clear A50; replace H := Option.bind_eq_some_iff.mp H; obtain ⟨t318, A60, H⟩ := H; replace H : (some (decide (t318 ≤ 0))) = some r := H; have A6 := Aside0.mk A60; clear A60; obtain rfl := Option.some.inj H; go_enter Try.func108, Try.ntmps108
 try go_wp2_with (first | ((with_reducible refine gate_dst (N := 3) rfl ?_); refine box_s #[.int .i64 a0_0, .int .i64 a0_1] 36 ?_; intro gb311 hg w7 hbox hb; have n0_ := st HB hb; have n1_ := Aside0.mk (hbox); have n2_ := ge HB hg; have n3_ := ge HB hg; clear HB; have HB := n0_; have BK311 := n1_; have GW311 := n2_; have GE311 := n3_; clear n0_ n1_ n2_ n3_; clear hb hbox hg) | ((with_reducible refine gate_dst (N := 4) rfl ?_); refine box_s #[.int .i64 a1_0, .int .i64 a1_1] 36 ?_; intro gb312 hg w8 hbox hb; have n0_ := kp BK311 hb; have n1_ := st HB hb; have n2_ := Aside0.mk (hbox); have n3_ := ge HB hg; have n4_ := ge HB hg; have n5_ := nl BK311 hg; have n6_ := nr BK311 hg; clear BK311; clear HB; have BK311 := n0_; have HB := n1_; have BK312 := n2_; have GW312 := n3_; have GE312 := n4_; have NB311_312 := n5_; have NB312_311 := n6_; clear n0_ n1_ n2_ n3_ n4_ n5_ n6_; clear hb hbox hg) | ((with_reducible refine gate_dst (N := 5) rfl ?_); refine box_s #[.int .i64 a2_0, .int .i64 a2_1] 36 ?_; intro gb313 hg w9 hbox hb; have n0_ := kp BK311 hb; have n1_ := kp BK312 hb; have n2_ := st HB hb; have n3_ := Aside0.mk (hbox); have n4_ := ge HB hg; have n5_ := ge HB hg; have n6_ := nl BK311 hg; have n7_ := nr BK311 hg; have n8_ := nl BK312 hg; have n9_ := nr BK312 hg; clear BK311; clear BK312; clear HB; have BK311 := n0_; have BK312 := n1_; have HB := n2_; have BK313 := n3_; have GW313 := n4_; have GE313 := n5_; have NB311_313 := n6_; have NB313_311 := n7_; have NB312_313 := n8_; have NB313_312 := n9_; clear n0_ n1_ n2_ n3_ n4_ n5_ n6_ n7_ n8_ n9_; clear hb hbox hg))
 have n0_ := Aside0.mk (blk_drew BK311.out); have n1_ := Aside0.mk (blk_drew BK312.out); have n2_ := Aside0.mk (blk_drew BK313.out); have n3_ := Aside0.mk (below_drew1 HB.out); clear BK311; clear BK312; clear BK313; clear HB; have BK311 := n0_; have BK312 := n1_; have BK313 := n2_; have HB := n3_; clear n0_ n1_ n2_ n3_; refine start_ (n := 9) (S := fun w' => w'.cell? ⟨gb311, 0, none⟩ = some (.int .i64 a0_0) ∧ w'.cell? ⟨gb311, 1, none⟩ = some (.int .i64 a0_1) ∧ w'.cell? ⟨gb313, 0, none⟩ = some (.int .i64 a2_0) ∧ w'.cell? ⟨gb313, 1, none⟩ = some (.int .i64 a2_1) ∧ w'.cell? ⟨gb312, 0, none⟩ = some (.int .i64 a1_0) ∧ w'.cell? ⟨gb312, 1, none⟩ = some (.int .i64 a1_1)) (ds := []) #[false, false, false, false, false, false, false, false, false] (by kernel_rfl) rfl rfl ⟨bc BK311 0, bc BK311 1, bc BK313 0, bc BK313 1, bc BK312 0, bc BK312 1⟩ (fun hHeld => ?_); refine with_tabW polygon_on.tab1 polygon_on.bits1 (fun HT_ HW_ => ?_); generalize w9.drew = w10 at BK311 BK312 BK313 HB hHeld ⊢; refine tk_ 0 7 HT_ HW_ hHeld (h := ?_); refine tk_ 1 8 HT_ HW_ hHeld (h := ?_); refine tk_ 3 10 HT_ HW_ hHeld (h := ?_); refine tk_ 4 11 HT_ HW_ hHeld (h := ?_); refine one_ (i := 2) (N := some 9) #[true, true, true, true, true, false, false, false, false] rfl rfl (one_of HT_.out (by kernel_rfl)) (by decide) (fun K hK => ?_); refine goes_ Try.func58 (by kernel_rfl) rfl #[.agg #[.int .i64 a0_0, .int .i64 a0_1], .agg #[.int .i64 a2_0, .int .i64 a2_1]] (by rfl) rfl rfl any_s ?_; with_reducible refine (plane_Sub.calls a0_0 a0_1 a2_0 a2_1 t314 t315 _ A4.out).mono ?_; rintro e w11 ⟨rfl, hb⟩; refine ⟨_, rfl, ?_⟩; have n0_ := kp BK311 hb; have n1_ := kp BK312 hb; have n2_ := kp BK313 hb; have n3_ := st HB hb; clear BK311; clear BK312; clear BK313; clear HB; have BK311 := n0_; have BK312 := n1_; have BK313 := n2_; have HB := n3_; clear n0_ n1_ n2_ n3_
 (try clear hb)
 (try clear hb2)
 (try clear hk)
 (try clear hi)
 refine hK.out _ _ ⟨bc BK311 0, bc BK311 1, bc BK313 0, bc BK313 1, bc BK312 0, bc BK312 1⟩ (fun hHeld => ?_); clear hK K; refine norm_ (a' := ?_) ?_ ?_; rotate_left
 · show Act.put _ (some 9) _ = _; simp only [Act.put, List.setIfInBounds_toArray, List.set_cons_zero, List.set_cons_succ, i64_w, i32_w]; rfl
 refine one_ (i := 5) (N := some 12) #[true, true, true, true, true, true, false, false, false] rfl rfl (one_of HT_.out (by kernel_rfl)) (by decide) (fun K hK => ?_); refine goes_ Try.func58 (by kernel_rfl) rfl #[.agg #[.int .i64 a1_0, .int .i64 a1_1], .agg #[.int .i64 a2_0, .int .i64 a2_1]] (by rfl) rfl rfl any_s ?_; with_reducible refine (plane_Sub.calls a1_0 a1_1 a2_0 a2_1 t316 t317 _ A5.out).mono ?_; rintro e w12 ⟨rfl, hb⟩; refine ⟨_, rfl, ?_⟩; have n0_ := kp BK311 hb; have n1_ := kp BK312 hb; have n2_ := kp BK313 hb; have n3_ := st HB hb; clear BK311; clear BK312; clear BK313; clear HB; have BK311 := n0_; have BK312 := n1_; have BK313 := n2_; have HB := n3_; clear n0_ n1_ n2_ n3_
 (try clear hb)
 (try clear hb2)
 (try clear hk)
 (try clear hi)
 refine hK.out _ _ ⟨bc BK311 0, bc BK311 1, bc BK313 0, bc BK313 1, bc BK312 0, bc BK312 1⟩ (fun hHeld => ?_); clear hK K; refine norm_ (a' := ?_) ?_ ?_; rotate_left
 · show Act.put _ (some 12) _ = _; simp only [Act.put, List.setIfInBounds_toArray, List.set_cons_zero, List.set_cons_succ, i64_w, i32_w]; rfl
 refine one_ (i := 6) (N := some 13) #[true, true, true, true, true, true, true, false, false] rfl rfl (one_of HT_.out (by kernel_rfl)) (by decide) (fun K hK => ?_); refine goes_ Try.func59 (by kernel_rfl) rfl #[.agg #[.int .i64 t314, .int .i64 t315], .agg #[.int .i64 t316, .int .i64 t317]] (by rfl) rfl rfl any_s ?_; with_reducible refine (plane_Dot.calls t314 t315 t316 t317 t318 _ A6.out).mono ?_; rintro e w13 ⟨rfl, hb⟩; refine ⟨_, rfl, ?_⟩; have n0_ := kp BK311 hb; have n1_ := kp BK312 hb; have n2_ := kp BK313 hb; have n3_ := st HB hb; clear BK311; clear BK312; clear BK313; clear HB; have BK311 := n0_; have BK312 := n1_; have BK313 := n2_; have HB := n3_; clear n0_ n1_ n2_ n3_
 (try clear hb)
 (try clear hb2)
 (try clear hk)
 (try clear hi)
 refine hK.out _ _ ⟨bc BK311 0, bc BK311 1, bc BK313 0, bc BK313 1, bc BK312 0, bc BK312 1⟩ (fun hHeld => ?_); clear hK K; refine norm_ (a' := ?_) ?_ ?_; rotate_left
 · show Act.put _ (some 13) _ = _; simp only [Act.put, List.setIfInBounds_toArray, List.set_cons_zero, List.set_cons_succ, i64_w, i32_w]; rfl
 refine pu_ 7 14 HT_ (h := ?_); refine pu_ 8 6 HT_ (h := ?_); refine done_ (done_of HT_.out (by kernel_rfl)) ?_
 try go_wp2
 go_ret
 exact ⟨by first | rfl | (simp [errW_none, errW_some] <;> rfl) | (simp [*, errW_none, errW_some] <;> rfl), by repeat (first | (with_reducible first | exact HB.out | apply below_alloc | apply pw_below_drewN | apply below_drew1 | refine below_set ?_ GE311.out | refine below_set ?_ GE312.out | refine below_set ?_ GE313.out) | exact HB.out)⟩

end Go.Proofs.Ytbpbpojnfhhbjaa.PRouteCrossed
