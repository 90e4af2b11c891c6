/- Made by wip/tools/myprint.py (over the kit's printer). -/
import Derived.Test.YthpbpdobghceeaaGreatDoorTSq3
import Derived.Test.YthpbpdobghceeaaGreatDoorPFlyWindsx0
import Derived.Test.YthpbpdobghceeaaGreatDoorPFlyWindsx12
import Derived.Test.YthpbpdobghceeaaGreatDoorPFlyWindsx13
import Derived.Test.YthpbpdobghceeaaGreatDoorTAng9
namespace Go.Proofs.YthpbpdobghceeaaGreatDoor.PFlyWinds
open Go.RowKit Go.Proofs.YthpbpdobghceeaaGreatDoorW.PrintWords Go.Proofs.YthpbpdobghceeaaGreatDoorW.PrintLast Go.Proofs.YthpbpdobghceeaaGreatDoorW.PrintMore
attribute [local go_sem] max2_int min2_int max_two min_two max_three min_three max_four min_four
set_option linter.unusedVariables false
set_option maxRecDepth 100000
set_option maxHeartbeats 8000000
set_option linter.unusedSimpArgs false
def angle_Of.f (x : Int) (y : Int) : Option (Int × Int) := if x < -2000000 then some (0, 4) else if 2000000 < x then some (0, 4) else if y < -2000000 then some (0, 4) else if 2000000 < y then some (0, 4) else if x = 0 ∧ y = 0 then some (0, 10) else some (Ang.ofI x y, 0)
theorem angle_Of.after_eq {x y : Int} (x1 : -2000000 ≤ x) (x2 : x ≤ 2000000) (y1 : -2000000 ≤ y) (y2 : y ≤ 2000000) (h : Int) : angle_after.f h x y = some (Ang.aft x y h) ∧ -70000000000 ≤ Ang.aft x y h ∧ Ang.aft x y h ≤ 70000000000 := by
  obtain ⟨b1, b2⟩ := Ang.cos_bd h; obtain ⟨_, _, _, _, a1, a2⟩ := Ang.circ_at h; obtain ⟨p1, p2⟩ := Ang.prod_bd b1 b2 x1 x2; obtain ⟨q1, q2⟩ := Ang.prod_bd a1 a2 y1 y2
  have hc : angle_Cos.f h = some (Ang.cosI h) := by
    unfold angle_Cos.f angle_Sin.f; rw [Ang.sinI_wrap]; rfl
  unfold angle_after.f angle_Sin.f; rw [hc]; simp only [Option.bind_some]; unfold Ang.aft; generalize Ang.cosI h * x = u at *; generalize Ang.sinI h * y = v at *
  have w1 : wrap64 u = u := by unfold wrap64; omega
  have w2 : wrap64 v = v := by unfold wrap64; omega
  have w3 : wrap64 (u - v) = u - v := by unfold wrap64; omega
  rw [w1, w2, w3]; exact ⟨rfl, by omega, by omega⟩
def angle_Of.T10 : Bool × List (List Nat × List Nat) := (true, [([], []), ([], []), ([0, 1], [0, 1]), ([], []), ([3], [3]), ([], []), ([4, 5, 2], [4, 5]), ([6], [6]), ([2, 7], [2, 7])])
def angle_Of.B10 : List Nat := [0, 0, 3, 0, 8, 0, 63, 127, 255]
theorem angle_Of.tab10 : rtab .any (opsOf Tryz.f62 10) = angle_Of.T10 := by kernel_rfl
theorem angle_Of.bits10 : waitsOk angle_Of.T10.2 angle_Of.B10 = true := by kernel_rfl
theorem angle_Of.calls (x : Int) (y : Int) (r1 : Int) (r2 : Int) (w : World) (h : angle_Of.f x y = some (r1, r2)) (hT0 : Ang.Tab w := by exact Ang.Tab.below hT0 (by repeat (first | (with_reducible first | exact HB.out | apply below_alloc | apply pw_below_drewN | apply below_drew1) | exact HB.out | (refine Below.setCell ?_ (by dsimp only; exact Aside0.out (by assumption)) _)))) :
    Calls Tryz.prog 62 #[.agg #[.int .i64 x, .int .i64 y]] w fun e w' => e = .returned (.tuple #[.int .i64 r1, .int .i64 r2]) ∧ Below w.heap.size w w' := by
  unfold angle_Of.f at h; obtain ⟨W0, hW0⟩ : ∃ W0, w.alloc (.cells #[.int .i64 x, .int .i64 y] 54) = W0 := ⟨_, rfl⟩; have B0 := Aside0.mk (show Below w.heap.size w W0 by rw [← hW0]; exact below_alloc (Below.refl _ _) _); have X0 := Aside0.mk (show W0.heap[w.heap.size]? = some (.cells #[.int .i64 x, .int .i64 y] 54 (0, 0)) by rw [← hW0]; exact blk_new w _); have d0 : W0.cell? ⟨w.heap.size, 0, none⟩ = some (.int .i64 x) := bc X0 0; have d1 : W0.cell? ⟨w.heap.size, 1, none⟩ = some (.int .i64 y) := bc X0 1; have HT := Aside0.mk hT0; clear hT0
  by_cases c1 : x < -2000000
  · rw [if_pos c1] at h; cases h; have e1 : decide (x < -2000000) = true := decide_eq_true c1; go_enter Tryz.func62, Tryz.ntmps62; go_wp2; go_ret2; exact ⟨rfl, B0.out⟩
  rw [if_neg c1] at h; have e1 : decide (x < -2000000) = false := decide_eq_false c1
  by_cases c2 : 2000000 < x
  · rw [if_pos c2] at h; cases h; have e2 : decide (2000000 < x) = true := decide_eq_true c2; go_enter Tryz.func62, Tryz.ntmps62; go_wp2; go_ret2; exact ⟨rfl, B0.out⟩
  rw [if_neg c2] at h; have e2 : decide (2000000 < x) = false := decide_eq_false c2
  by_cases c3 : y < -2000000
  · rw [if_pos c3] at h; cases h; have e3 : decide (y < -2000000) = true := decide_eq_true c3; go_enter Tryz.func62, Tryz.ntmps62; go_wp2; go_ret2; exact ⟨rfl, B0.out⟩
  rw [if_neg c3] at h; have e3 : decide (y < -2000000) = false := decide_eq_false c3
  by_cases c4 : 2000000 < y
  · rw [if_pos c4] at h; cases h; have e4 : decide (2000000 < y) = true := decide_eq_true c4; go_enter Tryz.func62, Tryz.ntmps62; go_wp2; go_ret2; exact ⟨rfl, B0.out⟩
  rw [if_neg c4] at h; have e4 : decide (2000000 < y) = false := decide_eq_false c4
  by_cases c5 : x = 0 ∧ y = 0
  · rw [if_pos c5] at h; cases h; obtain ⟨rfl, rfl⟩ := c5; go_enter Tryz.func62, Tryz.ntmps62; go_wp2; go_ret2; exact ⟨rfl, B0.out⟩
  · rw [if_neg c5] at h; cases h
    have hne : x ≠ 0 ∨ y ≠ 0 := by omega
    obtain ⟨ra, hua, hca⟩ := Ang.atan2_any (x := x) (y := y) hne (by omega) (by omega) (by omega) (by omega); obtain ⟨rb, hb, hub⟩ := FB.div_U hua (FB.chkL_ok (b := 4618760256179416344) (s := false) (l := 2) (h := 3) (by decide +kernel)); obtain ⟨rc, hc, huc⟩ := FB.mul_U hub (FB.dL.U (FB.chkL_ok (b := 4661225614328463360) (s := false) (l := 12) (h := 12) (by decide +kernel))); obtain ⟨rd, hd, hud⟩ := FB.floor_ok huc (by decide) (by decide); obtain ⟨n0, hn0⟩ := FB.int_ok hud (by decide) (by decide); have q1 := Ang.op2 (op := .quo) (x := ra) (y := 4618760256179416344) (r := rb) hb; have q2 := Ang.op2 (op := .mul) (x := rb) (y := 4661225614328463360) (r := rc) hc; have q3 := Ang.conv_i rd n0 hn0; have q4 := Ang.conv_f x; have q5 := Ang.conv_f y; have hfl := Ang.floor_any hd; have HZ : Aside0 (∀ g, angle_after.f g x y = some (Ang.aft x y g)) := ⟨fun g => (angle_Of.after_eq (by omega) (by omega) (by omega) (by omega) g).1⟩; have HZ1 : Aside0 (∀ g, angle_after.f (wrap64 (g + 1)) x y = some (Ang.aft x y (g + 1))) := ⟨fun g => by rw [HZ.out, Ang.aft_mod x y (show wrap64 (g + 1) % 4096 = (g + 1) % 4096 by unfold wrap64; omega)]⟩; have HBD : Aside0 (∀ g, -70000000000 ≤ Ang.aft x y g ∧ Ang.aft x y g ≤ 70000000000) := ⟨fun g => (angle_Of.after_eq (by omega) (by omega) (by omega) (by omega) g).2⟩; have HNE := Aside0.mk hne; have HCA := Aside0.mk hca; have HFL := Aside0.mk hfl; clear hb hc hd hua hub huc hud hn0 hca hfl hne
    have hsplit : ((x == 0) = true ∧ (y == 0) = false) ∨ (x == 0) = false := by
      by_cases cx : x = 0
      · exact .inl ⟨beq_iff_eq.2 cx, beq_eq_false_iff_ne.2 (fun e => c5 ⟨cx, e⟩)⟩
      · exact .inr (beq_eq_false_iff_ne.2 cx)
    clear c1 c2 c3 c4 c5
    rcases hsplit with ⟨ex, ey⟩ | ex
    all_goals
      go_enter Tryz.func62, Tryz.ntmps62
      go_wp2_with (first | (go_at_call 96; refine (HCA.out _).mono ?_; rintro e w' ⟨rfl, rfl⟩) | (go_at_call 95; refine (HFL.out _).mono ?_; rintro e w' ⟨rfl, rfl⟩))
      go_loopg [4] 4096 (fun gas s4 wr => ∃ (g : Int) (d : Nat), s4 = .int .i64 g ∧ d ≤ gas ∧ Aside0 (0 ≤ Ang.aft x y (g - d)) ∧ Aside0 (Below w.heap.size w wr) ∧ Aside0 (wr.heap[w.heap.size]? = some (.cells #[.int .i64 x, .int .i64 y] 54 (0, 0))))
      case atStart =>
        obtain ⟨d, hd, ha⟩ := Ang.down_some HNE.out n0; exact ⟨n0, d, rfl, hd, ⟨ha⟩, B0, X0⟩
      case round =>
        obtain ⟨g, d, rfl, hgas, HA, B1, X1⟩ := hrel; clear d0 d1 B0 X0 hW0; have d0 : wr.cell? ⟨w.heap.size, 0, none⟩ = some (.int .i64 x) := bc X1 0; have d1 : wr.cell? ⟨w.heap.size, 1, none⟩ = some (.int .i64 y) := bc X1 1
        by_cases c : Ang.aft x y g < 0
        · have ec : decide (Ang.aft x y g < 0) = true := decide_eq_true c
          obtain ⟨d, rfl⟩ : ∃ d', d = d' + 1 := by
            cases d with
            | zero => have := HA.out; rw [show g - ((0 : Nat) : Int) = g by omega] at this; omega
            | succ d => exact ⟨d, rfl⟩
          have HA2 : Aside0 (0 ≤ Ang.aft x y (wrap64 (g - 1) - d)) := ⟨by
            rw [Ang.aft_mod x y (show (wrap64 (g - 1) - d) % 4096 = (g - ((d + 1 : Nat) : Int)) % 4096 by unfold wrap64; omega)]
            exact HA.out⟩
          clear c HA; go_wp2_with (go_at_call 97; with_reducible refine (angle_after.calls g x y (Ang.aft x y g) _ (HZ.out g) (HT.out.below B1.out)).mono ?_; rintro e w2 ⟨rfl, hb⟩; have B2 := Aside0.mk (below_step B1.out hb); have X2 := Aside0.mk (blk_below X1.out hb); clear hb d0 d1); go_roundg d
          case measure => omega
          case rel => exact ⟨wrap64 (g - 1), d, rfl, Nat.le_refl _, HA2, B2, X2⟩
        · have ec : decide (Ang.aft x y g < 0) = false := decide_eq_false c; have HP0 : Aside0 (0 ≤ Ang.aft x y g) := ⟨by omega⟩; clear c HA hgas d; go_wp2_with (go_at_call 97; with_reducible refine (angle_after.calls g x y (Ang.aft x y g) _ (HZ.out g) (HT.out.below B1.out)).mono ?_; rintro e w2 ⟨rfl, hb⟩; have B2 := Aside0.mk (below_step B1.out hb); have X2 := Aside0.mk (blk_below X1.out hb); clear hb d0 d1); go_loopg [4] 4096 (fun gas s4 wr => ∃ (g : Int) (d : Nat), s4 = .int .i64 g ∧ d ≤ gas ∧ Aside0 (0 ≤ Ang.aft x y g) ∧ Aside0 (Ang.aft x y (g + 1 + d) < 0) ∧ Aside0 (Below w.heap.size w wr) ∧ Aside0 (wr.heap[w.heap.size]? = some (.cells #[.int .i64 x, .int .i64 y] 54 (0, 0))))
          case atStart =>
            obtain ⟨d, hd, ha⟩ := Ang.up_some HNE.out (g + 1); exact ⟨g, d, rfl, hd, HP0, ⟨ha⟩, B2, X2⟩
          case round =>
            clear B1 X1 B2 X2 HP0 ec; obtain ⟨g, d, rfl, hgas, HA, HU, B3, X3⟩ := hrel; have d0 : wr.cell? ⟨w.heap.size, 0, none⟩ = some (.int .i64 x) := bc X3 0; have d1 : wr.cell? ⟨w.heap.size, 1, none⟩ = some (.int .i64 y) := bc X3 1
            by_cases c : 0 ≤ Ang.aft x y (g + 1)
            · have ec : decide (0 ≤ Ang.aft x y (g + 1)) = true := decide_eq_true c
              obtain ⟨d, rfl⟩ : ∃ d', d = d' + 1 := by
                cases d with
                | zero => have := HU.out; rw [show g + 1 + ((0 : Nat) : Int) = g + 1 by omega] at this; omega
                | succ d => exact ⟨d, rfl⟩
              have hm1 : wrap64 (g + 1) % 4096 = (g + 1) % 4096 := by unfold wrap64; omega
              have HA2 : Aside0 (0 ≤ Ang.aft x y (wrap64 (g + 1))) := ⟨by rw [Ang.aft_mod x y hm1]; exact c⟩
              have HU2 : Aside0 (Ang.aft x y (wrap64 (g + 1) + 1 + d) < 0) := ⟨by
                rw [Ang.aft_mod x y (show (wrap64 (g + 1) + 1 + d) % 4096 = (g + 1 + ((d + 1 : Nat) : Int)) % 4096 by omega)]
                exact HU.out⟩
              clear c HA HU hm1; go_wp2_with (go_at_call 97; with_reducible refine (angle_after.calls (wrap64 (g + 1)) x y (Ang.aft x y (g + 1)) _ (HZ1.out g) (HT.out.below B3.out)).mono ?_; rintro e w3 ⟨rfl, hb⟩; have HB := Aside0.mk (below_step B3.out hb); have BK := Aside0.mk (blk_below X3.out hb); clear hb d0 d1 B3 X3); go_roundg d
              case measure => omega
              case rel => exact ⟨wrap64 (g + 1), d, rfl, Nat.le_refl _, HA2, HU2, HB, BK⟩
            · have ec : decide (0 ≤ Ang.aft x y (g + 1)) = false := decide_eq_false c; have hp : Ang.Pass x y g := ⟨HA.out, by omega⟩; obtain ⟨u1, u2⟩ := HBD.out g; obtain ⟨v1, v2⟩ := HBD.out (g + 1); have hof := Ang.ofI_eq hp; unfold Ang.near1 at hof
              have wn : wrap64 (-(Ang.aft x y (g + 1))) = -(Ang.aft x y (g + 1)) := by unfold wrap64; omega
              have HOF := Aside0.mk hof; clear c HU hp HA hgas d hof u1 u2 v1 v2; go_wp2_with (go_at_call 97; with_reducible refine (angle_after.calls (wrap64 (g + 1)) x y (Ang.aft x y (g + 1)) _ (HZ1.out g) (HT.out.below B3.out)).mono ?_; rintro e w3 ⟨rfl, hb⟩; have HB := Aside0.mk (below_step B3.out hb); have BK := Aside0.mk (blk_below X3.out hb); clear hb d0 d1 B3 X3); have BK2 := Aside0.mk (blk_drew BK.out); have HB2 := Aside0.mk (below_drew1 HB.out); clear BK HB; have BK := BK2; have HB := HB2; clear BK2 HB2; refine start_ (n := 9) (S := fun w' => w'.cell? ⟨w.heap.size, 0, none⟩ = some (.int .i64 x) ∧ w'.cell? ⟨w.heap.size, 1, none⟩ = some (.int .i64 y)) (ds := []) #[false, false, false, false, false, false, false, false, false] (by kernel_rfl) rfl rfl ⟨(blk_cell BK.out 0).trans rfl, (blk_cell BK.out 1).trans rfl⟩ (fun hHeld => ?_); refine with_tabW angle_Of.tab10 angle_Of.bits10 (fun HT_ HW_ => ?_); refine pu_ 0 57 HT_ (h := ?_); refine pu_ 3 60 HT_ (h := ?_); refine pu_ 4 61 HT_ (h := ?_); refine tk_ 1 58 HT_ HW_ hHeld (h := ?_); refine tk_ 5 62 HT_ HW_ hHeld (h := ?_); refine one_ (i := 2) (N := some 59) #[true, true, true, true, true, true, false, false, false] rfl rfl (one_of HT_.out (by kernel_rfl)) (by decide) (fun K hK => ?_); refine goes_ Tryz.func97 (by kernel_rfl) rfl #[.int .i64 g, .agg #[.int .i64 x, .int .i64 y]] (by rfl) rfl rfl (by (try simp only [List.map_toArray, List.map_cons, List.map_nil]); first | done | rfl) ?_; with_reducible refine (angle_after.calls g x y (Ang.aft x y g) _ (HZ.out g) (HT.out.below HB.out)).mono ?_; rintro e w7 ⟨rfl, hb⟩; refine ⟨_, rfl, ?_⟩; have n0_ := Aside0.mk (blk_below (g := w.heap.size) (o := .cells #[.int .i64 x, .int .i64 y] 54 (0, 0)) BK.out hb); have n1_ := Aside0.mk (below_step HB.out hb); clear BK HB; have BK := n0_; have HB := n1_; clear n0_ n1_ hb; refine hK.out _ _ ⟨(blk_cell BK.out 0).trans rfl, (blk_cell BK.out 1).trans rfl⟩ (fun hHeld => ?_); clear hK K; refine norm_ (a' := ?_) ?_ ?_; rotate_left
              · show Act.put _ (some 59) _ = _; simp only [Act.put, List.setIfInBounds_toArray, List.set_cons_zero, List.set_cons_succ, i64_w, i32_w]; rfl
              refine one_ (i := 6) (N := some 63) #[true, true, true, true, true, true, true, false, false] rfl rfl (one_of HT_.out (by kernel_rfl)) (by decide) (fun K hK => ?_); refine goes_ Tryz.func97 (by kernel_rfl) rfl #[.int .i64 (wrap64 (g + 1)), .agg #[.int .i64 x, .int .i64 y]] (by rfl) rfl rfl (by (try simp only [List.map_toArray, List.map_cons, List.map_nil]); first | done | rfl) ?_; with_reducible refine (angle_after.calls (wrap64 (g + 1)) x y (Ang.aft x y (g + 1)) _ (HZ1.out g) (HT.out.below HB.out)).mono ?_; rintro e w7 ⟨rfl, hb⟩; refine ⟨_, rfl, ?_⟩; have n0_ := Aside0.mk (blk_below (g := w.heap.size) (o := .cells #[.int .i64 x, .int .i64 y] 54 (0, 0)) BK.out hb); have n1_ := Aside0.mk (below_step HB.out hb); clear BK HB; have BK := n0_; have HB := n1_; clear n0_ n1_ hb; refine hK.out _ _ ⟨(blk_cell BK.out 0).trans rfl, (blk_cell BK.out 1).trans rfl⟩ (fun hHeld => ?_); clear hK K; refine norm_ (a' := ?_) ?_ ?_; rotate_left
              · show Act.put _ (some 63) _ = _; simp only [Act.put, List.setIfInBounds_toArray, List.set_cons_zero, List.set_cons_succ, i64_w, i32_w]; rfl
              refine pu_ 7 64 HT_ (h := ?_); refine pu_ 8 65 HT_ (h := ?_); refine done_ (done_of HT_.out (by kernel_rfl)) ?_; rw [wn]
              by_cases c3 : -(Ang.aft x y (g + 1)) < Ang.aft x y g
              · have e3 : decide (-(Ang.aft x y (g + 1)) < Ang.aft x y g) = true := decide_eq_true c3; have e5 : (-(Ang.aft x y (g + 1)) < Ang.aft x y g) = True := eq_true c3
                have z2 : angle_Norm.f (wrap64 (g + 1)) = some (Ang.ofI x y) := by
                  unfold angle_Norm.f; rw [HOF.out, if_pos c3, Ang.i64_and4095]
                  congr 1
                  unfold wrap64
                  omega
                have HC3 := Aside0.mk c3; clear c3 e5
                go_wp2_with (first | (go_at_call 98; exfalso; have hc3 := HC3.out; omega) | (go_at_call 98; with_reducible refine (angle_Norm.calls (wrap64 (g + 1)) (Ang.ofI x y) _ z2).mono ?_; rintro e w4 ⟨rfl, hb⟩; have HB2 := Aside0.mk (below_step HB.out hb)))
                go_ret2; exact ⟨rfl, HB2.out⟩
              · have e3 : decide (-(Ang.aft x y (g + 1)) < Ang.aft x y g) = false := decide_eq_false c3; have e5 : (-(Ang.aft x y (g + 1)) < Ang.aft x y g) = False := eq_false c3
                have z2 : angle_Norm.f g = some (Ang.ofI x y) := by
                  unfold angle_Norm.f; rw [HOF.out, if_neg c3, Ang.i64_and4095]
                have HC3 := Aside0.mk c3; clear c3 e5
                go_wp2_with (first | (go_at_call 98; exfalso; have hc3 := HC3.out; omega) | (go_at_call 98; with_reducible refine (angle_Norm.calls g (Ang.ofI x y) _ z2).mono ?_; rintro e w4 ⟨rfl, hb⟩; have HB2 := Aside0.mk (below_step HB.out hb)))
                go_ret2; exact ⟨rfl, HB2.out⟩
end Go.Proofs.YthpbpdobghceeaaGreatDoor.PFlyWinds
