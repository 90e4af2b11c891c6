/- Made by wip/tools/myprint.py (over the kit's printer). -/
import Derived.Test.YthpbpdobghceeaaGreatDoorTSq3
import Derived.Test.YthpbpdobghceeaaGreatDoorPFlyWindsx0
namespace Go.Proofs.YthpbpdobghceeaaGreatDoor.PFlyWinds
open Go.RowKit Go.Proofs.YthpbpdobghceeaaGreatDoorW.PrintWords Go.Proofs.YthpbpdobghceeaaGreatDoorW.PrintLast Go.Proofs.YthpbpdobghceeaaGreatDoorW.PrintMore
attribute [local go_sem] max2_int min2_int max_two min_two max_three min_three max_four min_four
set_option linter.unusedVariables false
set_option maxRecDepth 100000
set_option maxHeartbeats 8000000
set_option linter.unusedSimpArgs false
def plane_Sub.f (a0_0 : Int) (a0_1 : Int) (a1_0 : Int) (a1_1 : Int) : Option (Int × Int) := some (wrap64 (a0_0 - a1_0), wrap64 (a0_1 - a1_1))
theorem plane_Sub.calls (a0_0 : Int) (a0_1 : Int) (a1_0 : Int) (a1_1 : Int) (r1 : Int) (r2 : Int) (w : World) (h : plane_Sub.f a0_0 a0_1 a1_0 a1_1 = some (r1, r2)) :
    Calls Tryz.prog 57 #[.agg #[.int .i64 a0_0, .int .i64 a0_1], .agg #[.int .i64 a1_0, .int .i64 a1_1]] w fun e w' => e = .returned (.agg #[.int .i64 r1, .int .i64 r2]) ∧ Below w.heap.size w w' := by
 have hu54 := Tryz.underlying54; have HB := Aside0.mk (Below.refl w.heap.size w); have H := h; unfold plane_Sub.f at H; clear h; simp only [Option.some.injEq, Prod.mk.injEq] at H; obtain ⟨rfl, rfl⟩ := H; go_enter Tryz.func57, Tryz.ntmps57
 go_wp2_with (first | ((with_reducible refine gate_dst (N := 2) rfl ?_); refine box_s #[.int .i64 a0_0, .int .i64 a0_1] 54 ?_; intro gb240 hg w3 hbox hb; have BK240 := Aside0.mk (hbox); have GW240 := ge HB hg; have GE240 := ge HB hg; replace HB := st HB hb; clear hb hbox hg) | ((with_reducible refine gate_dst (N := 3) rfl ?_); refine box_s #[.int .i64 a1_0, .int .i64 a1_1] 54 ?_; intro gb241 hg w4 hbox hb; have BK241 := Aside0.mk (hbox); have GW241 := ge HB hg; have GE241 := ge HB hg; replace HB := st HB hb; have NB240_241 := nl BK240 hg; have NB241_240 := nr BK240 hg; replace BK240 := kp BK240 hb; clear hb hbox hg) | ((with_reducible refine gate_dst (N := 4) rfl ?_); refine box_s #[.int .i64 0, .int .i64 0] 54 ?_; intro gb242 hg w5 hbox hb; have BK242 := Aside0.mk (hbox); have GW242 := ge HB hg; have GE242 := ge HB hg; replace HB := st HB hb; have NB240_242 := nl BK240 hg; have NB242_240 := nr BK240 hg; replace BK240 := kp BK240 hb; have NB241_242 := nl BK241 hg; have NB242_241 := nr BK241 hg; replace BK241 := kp BK241 hb; clear hb hbox hg; have hnb6 := NB240_241.out; have hnc6 := NB241_240.out; have hnb7 := NB240_242.out; have hnc7 := NB242_240.out; obtain ⟨hcz8_0, hcz8_1, hfz8_0, hfz8_1⟩ := bq2 BK240; have hnb9 := NB241_242.out; have hnc9 := NB242_241.out; obtain ⟨hcz10_0, hcz10_1, hfz10_0, hfz10_1⟩ := bq2 BK241; obtain ⟨hcz11_0, hcz11_1, hfz11_0, hfz11_1⟩ := bq2 BK242))
 refine bodyPost_ret (results_cell_row rfl _ _ gb242 54 #[.int .i64 (wrap64 (a0_0 - a1_0)), .int .i64 (wrap64 (a0_1 - a1_1))] (0, 0) _ rfl (by (with_reducible repeat (first | refine blk_drewN ?_ _ | refine blk_drew ?_ | refine blk_alloc ?_ _)); refine blk_put (cs := #[.int .i64 (wrap64 (a0_0 - a1_0)), .int .i64 0]) ?_ 1 _ rfl; (with_reducible repeat (first | refine blk_drewN ?_ _ | refine blk_drew ?_ | refine blk_alloc ?_ _)); refine blk_put (cs := #[.int .i64 0, .int .i64 0]) ?_ 0 _ rfl; (with_reducible repeat (first | refine blk_drewN ?_ _ | refine blk_drew ?_ | refine blk_alloc ?_ _)); exact BK242.out) Tryz.underlying54 rfl (by kernel_rfl)) rfl ?_
 exact ⟨er_, bel_s⟩
def plane_Dot.f (a0_0 : Int) (a0_1 : Int) (a1_0 : Int) (a1_1 : Int) : Option (Int) := some (wrap64 ((wrap64 (a0_0 * a1_0)) + (wrap64 (a0_1 * a1_1))))
theorem plane_Dot.calls (a0_0 : Int) (a0_1 : Int) (a1_0 : Int) (a1_1 : Int) (r : Int) (w : World) (h : plane_Dot.f a0_0 a0_1 a1_0 a1_1 = some r) :
    Calls Tryz.prog 58 #[.agg #[.int .i64 a0_0, .int .i64 a0_1], .agg #[.int .i64 a1_0, .int .i64 a1_1]] w fun e w' => e = .returned (.int .i64 r) ∧ Below w.heap.size w w' := by
 have hu54 := Tryz.underlying54; have HB := Aside0.mk (Below.refl w.heap.size w); have H := h; unfold plane_Dot.f at H; clear h; obtain rfl := Option.some.inj H; go_enter Tryz.func58, Tryz.ntmps58
 go_wp2_with (first | ((with_reducible refine gate_dst (N := 2) rfl ?_); refine box_s #[.int .i64 a0_0, .int .i64 a0_1] 54 ?_; intro gb243 hg w3 hbox hb; have BK243 := Aside0.mk (hbox); have GW243 := ge HB hg; have GE243 := ge HB hg; replace HB := st HB hb; clear hb hbox hg) | ((with_reducible refine gate_dst (N := 3) rfl ?_); refine box_s #[.int .i64 a1_0, .int .i64 a1_1] 54 ?_; intro gb244 hg w4 hbox hb; have BK244 := Aside0.mk (hbox); have GW244 := ge HB hg; have GE244 := ge HB hg; replace HB := st HB hb; have NB243_244 := nl BK243 hg; have NB244_243 := nr BK243 hg; replace BK243 := kp BK243 hb; clear hb hbox hg; have hnb5 := NB243_244.out; have hnc5 := NB244_243.out; obtain ⟨hcz6_0, hcz6_1, hfz6_0, hfz6_1⟩ := bq2 BK243; obtain ⟨hcz7_0, hcz7_1, hfz7_0, hfz7_1⟩ := bq2 BK244))
 go_ret
 exact ⟨er_, bel_s⟩
def plane_Square.f (a0_0 : Int) (a0_1 : Int) (a1_0 : Int) (a1_1 : Int) : Option (Int) := (plane_Sub.f a0_0 a0_1 a1_0 a1_1).bind fun bt247 => ((plane_Dot.f bt247.1 bt247.2 bt247.1 bt247.2).bind fun t250 => (some t250))
theorem plane_Square.calls (a0_0 : Int) (a0_1 : Int) (a1_0 : Int) (a1_1 : Int) (r : Int) (w : World) (h : plane_Square.f a0_0 a0_1 a1_0 a1_1 = some r) :
    Calls Tryz.prog 18 #[.agg #[.int .i64 a0_0, .int .i64 a0_1], .agg #[.int .i64 a1_0, .int .i64 a1_1]] w fun e w' => e = .returned (.int .i64 r) ∧ Below w.heap.size w w' := by
 have hu54 := Tryz.underlying54; have HB := Aside0.mk (Below.refl w.heap.size w); have H := h; unfold plane_Square.f at H; clear h; replace H := Option.bind_eq_some_iff.mp H; obtain ⟨⟨t247, t248⟩, A30, H⟩ := H; (try dsimp only at H); have A3 := Aside0.mk A30; clear A30; replace H := Option.bind_eq_some_iff.mp H; obtain ⟨t250, A40, H⟩ := H; (try dsimp only at H); have A4 := Aside0.mk A40; clear A40; obtain rfl := Option.some.inj H; go_enter Tryz.func18, Tryz.ntmps18
 go_wp2_with (first | ((with_reducible refine gate_dst (N := 2) rfl ?_); refine box_s #[.int .i64 a0_0, .int .i64 a0_1] 54 ?_; intro gb245 hg w5 hbox hb; have BK245 := Aside0.mk (hbox); have GW245 := ge HB hg; have GE245 := ge HB hg; replace HB := st HB hb; clear hb hbox hg) | ((with_reducible refine gate_dst (N := 3) rfl ?_); refine box_s #[.int .i64 a1_0, .int .i64 a1_1] 54 ?_; intro gb246 hg w6 hbox hb; have BK246 := Aside0.mk (hbox); have GW246 := ge HB hg; have GE246 := ge HB hg; replace HB := st HB hb; have NB245_246 := nl BK245 hg; have NB246_245 := nr BK245 hg; replace BK245 := kp BK245 hb; clear hb hbox hg; have hnb7 := NB245_246.out; have hnc7 := NB246_245.out; obtain ⟨hcz8_0, hcz8_1, hfz8_0, hfz8_1⟩ := bq2 BK245; obtain ⟨hcz9_0, hcz9_1, hfz9_0, hfz9_1⟩ := bq2 BK246) | ((with_reducible refine gate_callee (f := 57) rfl ?_); refine goesL_ (some 8) rfl rfl Tryz.func57 (by kernel_rfl) rfl #[.agg #[.int .i64 a0_0, .int .i64 a0_1], .agg #[.int .i64 a1_0, .int .i64 a1_1]] rfl any_s ?_; (with_reducible refine (plane_Sub.calls a0_0 a0_1 a1_0 a1_1 t247 t248 _ A3.out).mono ?_); rintro e w10 ⟨rfl, hb⟩; refine ⟨_, rfl, ?_⟩; replace BK245 := kp BK245 hb; replace BK246 := kp BK246 hb; replace HB := st HB hb) | ((with_reducible refine gate_dst (N := 5) rfl ?_); refine box_s #[.int .i64 0, .int .i64 0] 54 ?_; intro gb249 hg w11 hbox hb; have BK249 := Aside0.mk (hbox); have GW249 := ge HB hg; have GE249 := ge HB hg; replace HB := st HB hb; have NB245_249 := nl BK245 hg; have NB249_245 := nr BK245 hg; replace BK245 := kp BK245 hb; have NB246_249 := nl BK246 hg; have NB249_246 := nr BK246 hg; replace BK246 := kp BK246 hb; clear hb hbox hg; have hnb12 := NB249_245.out; have hnc12 := NB245_249.out; have hnb13 := NB249_246.out; have hnc13 := NB246_249.out; obtain ⟨hcz14_0, hcz14_1, hfz14_0, hfz14_1⟩ := bq2 BK249) | ((with_reducible refine gate_callee (f := 58) rfl ?_); refine goesL_ (some 11) rfl rfl Tryz.func58 (by kernel_rfl) rfl #[.agg #[.int .i64 t247, .int .i64 t248], .agg #[.int .i64 t247, .int .i64 t248]] rfl any_s ?_; (with_reducible refine (plane_Dot.calls t247 t248 t247 t248 t250 _ A4.out).mono ?_); rintro e w15 ⟨rfl, hb⟩; refine ⟨_, rfl, ?_⟩; replace BK245 := kp BK245 hb; replace BK246 := kp BK246 hb; replace BK249 := Aside0.mk (blk_below (g := gb249) (o := .cells #[.int .i64 t247, .int .i64 t248] 54 (0, 0)) (by (with_reducible repeat (first | refine blk_drewN ?_ _ | refine blk_drew ?_ | refine blk_alloc ?_ _)); refine blk_put (cs := #[.int .i64 t247, .int .i64 0]) ?_ 1 _ rfl; (with_reducible repeat (first | refine blk_drewN ?_ _ | refine blk_drew ?_ | refine blk_alloc ?_ _)); refine blk_put (cs := #[.int .i64 0, .int .i64 0]) ?_ 0 _ rfl; (with_reducible repeat (first | refine blk_drewN ?_ _ | refine blk_drew ?_ | refine blk_alloc ?_ _)); exact BK249.out) hb); replace HB := st HB hb))
 go_ret
 exact ⟨er_, bel_s⟩
def num_Root.f (a0 : Int) : Option (Int) := if a0 ≤ 9223372036854775807 then some (RootF.rootI a0) else none
theorem num_Root.calls (a0 : Int) (r : Int) (w : World) (h : num_Root.f a0 = some r) :
    Calls Tryz.prog 70 #[.int .i64 a0] w fun e w' => e = .returned (.int .i64 r) ∧ Below w.heap.size w w' := by
  unfold num_Root.f at h
  by_cases c : a0 ≤ 9223372036854775807
  · rw [if_pos c] at h; obtain rfl := Option.some.inj h
    exact (RootF.root_calls a0 w c).mono fun _ _ h => ⟨h.1, h.2.below⟩
  · rw [if_neg c] at h; exact absurd h (by simp)
def plane_Distance.f (a0_0 : Int) (a0_1 : Int) (a1_0 : Int) (a1_1 : Int) : Option (Int × Int) := (plane_Square.f a0_0 a0_1 a1_0 a1_1).bind fun t253 => ((num_Root.f t253).bind fun t254 => (if (wrap64 (t254 * t254)) < t253 then (some (t254, wrap64 (t254 + 1))) else (some (t254, t254))))
theorem plane_Distance.calls (a0_0 : Int) (a0_1 : Int) (a1_0 : Int) (a1_1 : Int) (r1 : Int) (r2 : Int) (w : World) (h : plane_Distance.f a0_0 a0_1 a1_0 a1_1 = some (r1, r2)) :
    Calls Tryz.prog 29 #[.agg #[.int .i64 a0_0, .int .i64 a0_1], .agg #[.int .i64 a1_0, .int .i64 a1_1]] w fun e w' => e = .returned (.tuple #[.int .i64 r1, .int .i64 r2]) ∧ Below w.heap.size w w' := by
 have hu54 := Tryz.underlying54; have HB := Aside0.mk (Below.refl w.heap.size w); have H := h; unfold plane_Distance.f at H; clear h; replace H := Option.bind_eq_some_iff.mp H; obtain ⟨t253, A30, H⟩ := H; (try dsimp only at H); have A3 := Aside0.mk A30; clear A30; replace H := Option.bind_eq_some_iff.mp H; obtain ⟨t254, A40, H⟩ := H; (try dsimp only at H); have A4 := Aside0.mk A40; clear A40; refine Or.elim (Classical.em ((wrap64 (t254 * t254)) < t253)) (fun c5 => ?p2_) (fun c5 => ?n2_)
 case' p2_ =>
  rw [if_pos c5] at H; have c5b0 := decide_eq_true c5; clear c5; simp only [Option.some.injEq, Prod.mk.injEq] at H; obtain ⟨rfl, rfl⟩ := H
 case' n2_ =>
  rw [if_neg c5] at H; have c5b0 := decide_eq_false c5; clear c5; simp only [Option.some.injEq, Prod.mk.injEq] at H; obtain ⟨rfl, rfl⟩ := H
 all_goals
  go_enter Tryz.func29, Tryz.ntmps29
  go_wp2_with (first | ((with_reducible refine gate_dst (N := 2) rfl ?_); refine box_s #[.int .i64 a0_0, .int .i64 a0_1] 54 ?_; intro gb251 hg wx10081 hbox hb; have BK251 := Aside0.mk (hbox); have GW251 := ge HB hg; have GE251 := ge HB hg; replace HB := st HB hb; clear hb hbox hg) | ((with_reducible refine gate_dst (N := 3) rfl ?_); refine box_s #[.int .i64 a1_0, .int .i64 a1_1] 54 ?_; intro gb252 hg wx86da1 hbox hb; have BK252 := Aside0.mk (hbox); have GW252 := ge HB hg; have GE252 := ge HB hg; replace HB := st HB hb; have NB251_252 := nl BK251 hg; have NB252_251 := nr BK251 hg; replace BK251 := kp BK251 hb; clear hb hbox hg; have hnbx86da1 := NB251_252.out; have hncx86da1 := NB252_251.out; obtain ⟨hczx86da1, hczx86da2, hfzx86da1, hfzx86da2⟩ := bq2 BK251; obtain ⟨hczx86da3, hczx86da4, hfzx86da3, hfzx86da4⟩ := bq2 BK252) | ((with_reducible refine gate_callee (f := 18) rfl ?_); refine goesL_ (some 10) rfl rfl Tryz.func18 (by kernel_rfl) rfl #[.agg #[.int .i64 a0_0, .int .i64 a0_1], .agg #[.int .i64 a1_0, .int .i64 a1_1]] rfl any_s ?_; (with_reducible refine (plane_Square.calls a0_0 a0_1 a1_0 a1_1 t253 _ A3.out).mono ?_); rintro e wxa2bb1 ⟨rfl, hb⟩; refine ⟨_, rfl, ?_⟩; replace BK251 := kp BK251 hb; replace BK252 := kp BK252 hb; replace HB := st HB hb) | ((with_reducible refine gate_callee (f := 70) rfl ?_); refine goesL_ (some 12) rfl rfl Tryz.func70 (by kernel_rfl) rfl #[.int .i64 t253] rfl any_s ?_; (with_reducible refine (num_Root.calls t253 t254 _ A4.out).mono ?_); rintro e wx59e41 ⟨rfl, hb⟩; refine ⟨_, rfl, ?_⟩; replace BK251 := kp BK251 hb; replace BK252 := kp BK252 hb; replace HB := st HB hb))
  go_ret2
  exact ⟨er_, bel_s⟩
def num_DivDown.j0 : Nat → Int → Int → Bool → Option (Int × Int)
  | 0, _, _, _ => none
  | k + 1, x0, x1, x10 => if x10 = true then (some (0, 2)) else (if x1 = 0 then (none) else (if (Int.tmod x0 x1) = 0 then (some (wrap64 (Int.tdiv x0 x1), 0)) else (if ((decide (x0 < 0)) != (decide (x1 < 0))) = true then (some (wrap64 ((wrap64 (Int.tdiv x0 x1)) - 1), 0)) else (some (wrap64 (Int.tdiv x0 x1), 0)))))
def num_DivDown.f (k : Nat) (a0 : Int) (a1 : Int) : Option (Int × Int) := if a1 = 0 then (some (0, 10)) else (if a0 = (-9223372036854775808) then (num_DivDown.j0 k a0 a1 (a1 == (-1))) else (num_DivDown.j0 k a0 a1 false))
theorem num_DivDown.mono_l : ∀ k, (∀ y0 y1 y2, LeO (num_DivDown.j0 k y0 y1 y2) (num_DivDown.j0 (k + 1) y0 y1 y2))
  | 0 => fun _ _ _ r h => by simp [num_DivDown.j0] at h
  | k + 1 => by
    have ih0 := num_DivDown.mono_l k
    · intro y0 y1 y2; unfold num_DivDown.j0
      repeat' with_reducible first | apply ih0 | apply LeO.refl | apply LeO.none | apply LeO.ite | refine LeO.bind ?_ (fun _ => ?_)
theorem num_DivDown.mono : ∀ a0 a1 k, LeO (num_DivDown.f k a0 a1) (num_DivDown.f (k + 1) a0 a1) := by
  intro a0 a1 k; have ih0 := num_DivDown.mono_l k; unfold num_DivDown.f
  repeat' with_reducible first | apply ih0 | apply LeO.refl | apply LeO.none | apply LeO.ite | refine LeO.bind ?_ (fun _ => ?_)
theorem num_DivDown.calls (k : Nat) (a0 : Int) (a1 : Int) (r1 : Int) (r2 : Int) (w : World) (h : num_DivDown.f k a0 a1 = some (r1, r2)) :
    Calls Tryz.prog 85 #[.int .i64 a0, .int .i64 a1] w fun e w' => e = .returned (.tuple #[.int .i64 r1, .int .i64 r2]) ∧ Below w.heap.size w w' := by
 have HB := Aside0.mk (Below.refl w.heap.size w); have H := h; unfold num_DivDown.f at H; clear h; refine Or.elim (Classical.em (a1 = 0)) (fun c3 => ?p2_) (fun c3 => ?n2_)
 case' p2_ =>
  rw [if_pos c3] at H; have c3b0 := beq_iff_eq.mpr c3; have c3b1 := bne_eq_false_iff_eq.mpr c3; clear c3; simp only [Option.some.injEq, Prod.mk.injEq] at H; obtain ⟨rfl, rfl⟩ := H; have hm1_0 := Aside0.mk trivial
 case' n2_ =>
  rw [if_neg c3] at H; have c3b0 := beq_eq_false_iff_ne.mpr c3; have c3b1 := bne_iff_ne.mpr c3; have HC4 := Aside0.mk H; clear H; have hm1_1 := Aside0.mk trivial
 all_goals
  go_enter Tryz.func85, Tryz.ntmps85
  first
   | clear hm1_0; go_wp2; go_ret2
     exact ⟨er_, bel_s⟩
   | clear hm1_1
     go_upto_region 3 with (fail)
     go_cut [10] (fun v10 wc => ∃ (kq : Nat) (x10_3 : Bool), v10 = .bool x10_3 ∧ Aside0 (num_DivDown.j0 kq a0 a1 x10_3 = some (r1, r2)) ∧ Aside0 (kq ≤ k) ∧ Aside0 (Below w.heap.size w wc))
     case first =>
      have H := HC4.out; clear HC4; refine Or.elim (Classical.em (a0 = (-9223372036854775808))) (fun c5 => ?p4_) (fun c5 => ?n4_)
      case' p4_ =>
       rw [if_pos c5] at H; have c5b0 := beq_iff_eq.mpr c5; have c5b1 := bne_eq_false_iff_eq.mpr c5; clear c5
       (first | rw [c5b0] | (simp only [i64_w, i32_w]; rw [c5b0]) | skip)
      case' n4_ =>
       rw [if_neg c5] at H; have c5b0 := beq_eq_false_iff_ne.mpr c5; have c5b1 := bne_iff_ne.mpr c5
       (first | rw [c5b0] | (simp only [i64_w, i32_w]; rw [c5b0]) | skip)
      all_goals
       have H' := Aside0.mk H; clear H; go_wp2; go_meet
       case rel => first | (exact ⟨_, ((a1 == (-1))), rs_, H', ⟨by first | omega | exact Nat.le_refl _⟩, ⟨bel_s⟩⟩) | (exact ⟨_, (false), rs_, H', ⟨by first | omega | exact Nat.le_refl _⟩, ⟨bel_s⟩⟩)
     case rest =>
      clear HC4
      obtain ⟨kq, x10_3, rfl, HA, HJ3, HB⟩ := hcut
      cases kq with
      | zero => exact absurd HA.out (by simp [num_DivDown.j0])
      | succ kj3 =>
       have H := HA.out; clear HA; simp only [num_DivDown.j0] at H; refine Or.elim (Classical.em (x10_3 = true)) (fun c6 => ?p6_) (fun c6 => ?n6_)
       case' p6_ =>
        subst c6
        rw [if_pos rfl] at H; (try dsimp only at H); simp only [Option.some.injEq, Prod.mk.injEq] at H; obtain ⟨rfl, rfl⟩ := H
       case' n6_ =>
        replace c6 := Bool.eq_false_iff.mpr c6; subst c6
        rw [if_neg (show ¬ (false = true) by decide)] at H; (try dsimp only at H); refine Or.elim (Classical.em (a1 = 0)) (fun c7 => ?p7_) (fun c7 => ?n7_)
        case' p7_ =>
         rw [if_pos c7] at H; exact absurd H (by simp)
        case' n7_ =>
         rw [if_neg c7] at H; have c7b0 := beq_eq_false_iff_ne.mpr c7; have c7b1 := bne_iff_ne.mpr c7; refine Or.elim (Classical.em ((Int.tmod a0 a1) = 0)) (fun c8 => ?p8_) (fun c8 => ?n8_)
         case' p8_ =>
          rw [if_pos c8] at H; have c8b0 := beq_iff_eq.mpr c8; have c8b1 := bne_eq_false_iff_eq.mpr c8; clear c8; simp only [Option.some.injEq, Prod.mk.injEq] at H; obtain ⟨rfl, rfl⟩ := H
         case' n8_ =>
          rw [if_neg c8] at H; have c8b0 := beq_eq_false_iff_ne.mpr c8; have c8b1 := bne_iff_ne.mpr c8; refine Or.elim (Classical.em (((decide (a0 < 0)) != (decide (a1 < 0))) = true)) (fun c9 => ?p9_) (fun c9 => ?n9_)
          case' p9_ =>
           rw [if_pos c9] at H; have c9b0 : ((decide (a0 < 0)) != (decide (a1 < 0))) = true := c9
           (try (have c9b1 : decide ((decide (a0 < 0)) = (decide (a1 < 0))) = false := by simpa using c9))
           (try (have c9b2 : ((decide (a0 < 0)) == (decide (a1 < 0))) = false := by simpa using c9))
           (try (have c9b3 : ¬ ((decide (a0 < 0)) = (decide (a1 < 0))) := by simpa using c9))
           clear c9; simp only [Option.some.injEq, Prod.mk.injEq] at H; obtain ⟨rfl, rfl⟩ := H
          case' n9_ =>
           rw [if_neg c9] at H
           have c9b0 : ((decide (a0 < 0)) != (decide (a1 < 0))) = false := by simpa using c9
           (try (have c9b1 : decide ((decide (a0 < 0)) = (decide (a1 < 0))) = true := by simpa using c9))
           (try (have c9b2 : ((decide (a0 < 0)) == (decide (a1 < 0))) = true := by simpa using c9))
           clear c9; simp only [Option.some.injEq, Prod.mk.injEq] at H; obtain ⟨rfl, rfl⟩ := H
       all_goals
        go_wp2; go_ret2
        exact ⟨er_, bel_s⟩
def num_DivUp.f (k : Nat) (a0 : Int) (a1 : Int) : Option (Int × Int) := (num_DivDown.f k a0 a1).bind fun bt255 => (if bt255.2 = 0 then (if a1 = 0 then (none) else (if (Int.tmod a0 a1) = 0 then (some (bt255.1, bt255.2)) else (some (wrap64 (bt255.1 + 1), bt255.2)))) else (some (bt255.1, bt255.2)))
theorem num_DivUp.mono : ∀ a0 a1 k, LeO (num_DivUp.f k a0 a1) (num_DivUp.f (k + 1) a0 a1) := by
  intro a0 a1 k; unfold num_DivUp.f
  repeat' with_reducible first | apply num_DivDown.mono | apply LeO.refl | apply LeO.none | apply LeO.ite | refine LeO.bind ?_ (fun _ => ?_)
theorem num_DivUp.calls (k : Nat) (a0 : Int) (a1 : Int) (r1 : Int) (r2 : Int) (w : World) (h : num_DivUp.f k a0 a1 = some (r1, r2)) :
    Calls Tryz.prog 40 #[.int .i64 a0, .int .i64 a1] w fun e w' => e = .returned (.tuple #[.int .i64 r1, .int .i64 r2]) ∧ Below w.heap.size w w' := by
 have HB := Aside0.mk (Below.refl w.heap.size w); have H := h; unfold num_DivUp.f at H; clear h; replace H := Option.bind_eq_some_iff.mp H; obtain ⟨⟨t255, t256⟩, A30, H⟩ := H; (try dsimp only at H); have A3 := Aside0.mk A30; clear A30; refine Or.elim (Classical.em (t256 = 0)) (fun c4 => ?p2_) (fun c4 => ?n2_)
 case' p2_ =>
  rw [if_pos c4] at H; have c4b0 := beq_iff_eq.mpr c4; have c4b1 := bne_eq_false_iff_eq.mpr c4; clear c4; refine Or.elim (Classical.em (a1 = 0)) (fun c5 => ?p3_) (fun c5 => ?n3_)
  case' p3_ =>
   rw [if_pos c5] at H; exact absurd H (by simp)
  case' n3_ =>
   rw [if_neg c5] at H; have c5b0 := beq_eq_false_iff_ne.mpr c5; have c5b1 := bne_iff_ne.mpr c5; refine Or.elim (Classical.em ((Int.tmod a0 a1) = 0)) (fun c6 => ?p4_) (fun c6 => ?n4_)
   case' p4_ =>
    rw [if_pos c6] at H; have c6b0 := beq_iff_eq.mpr c6; have c6b1 := bne_eq_false_iff_eq.mpr c6; clear c6; simp only [Option.some.injEq, Prod.mk.injEq] at H; obtain ⟨rfl, rfl⟩ := H
   case' n4_ =>
    rw [if_neg c6] at H; have c6b0 := beq_eq_false_iff_ne.mpr c6; have c6b1 := bne_iff_ne.mpr c6; simp only [Option.some.injEq, Prod.mk.injEq] at H; obtain ⟨rfl, rfl⟩ := H
 case' n2_ =>
  rw [if_neg c4] at H; have c4b0 := beq_eq_false_iff_ne.mpr c4; have c4b1 := bne_iff_ne.mpr c4; simp only [Option.some.injEq, Prod.mk.injEq] at H; obtain ⟨rfl, rfl⟩ := H
 all_goals
  go_enter Tryz.func40, Tryz.ntmps40
  go_wp2_with (first | ((with_reducible refine gate_callee (f := 85) rfl ?_); refine goesL_ (some 11) rfl rfl Tryz.func85 (by kernel_rfl) rfl #[.int .i64 a0, .int .i64 a1] rfl any_s ?_; (with_reducible refine (num_DivDown.calls k a0 a1 t255 t256 _ A3.out).mono ?_); rintro e wx93241 ⟨rfl, hb⟩; refine ⟨_, rfl, ?_⟩; replace HB := st HB hb))
  go_ret2
  exact ⟨er_, bel_s⟩
mutual
def wind_Check.l0 : Nat → List (S131) → List (S131) → Int → Int → Option (Int)
  | 0, _, _, _, _ => none
  | k + 1, x0, x8, x9, x10 => if x10 < x9 then (if 0 ≤ x10 then (if x10 < (x8.length : Int) then (if ((rd_T131 x8 x10).f0) < 0 then (wind_Check.j1 k x0 x10 x8 x9 x10 true ((rd_T131 x8 x10).f0) ((rd_T131 x8 x10).f1) ((rd_T131 x8 x10).f2.f0) ((rd_T131 x8 x10).f2.f1) ((rd_T131 x8 x10).f3)) else (if ((rd_T131 x8 x10).f1) > 60001 then (wind_Check.j1 k x0 x10 x8 x9 x10 true ((rd_T131 x8 x10).f0) ((rd_T131 x8 x10).f1) ((rd_T131 x8 x10).f2.f0) ((rd_T131 x8 x10).f2.f1) ((rd_T131 x8 x10).f3)) else (wind_Check.j1 k x0 x10 x8 x9 x10 (decide (((rd_T131 x8 x10).f0) ≥ ((rd_T131 x8 x10).f1))) ((rd_T131 x8 x10).f0) ((rd_T131 x8 x10).f1) ((rd_T131 x8 x10).f2.f0) ((rd_T131 x8 x10).f2.f1) ((rd_T131 x8 x10).f3)))) else (none)) else (none)) else (some 0)
def wind_Check.j1 : Nat → List (S131) → Int → List (S131) → Int → Int → Bool → Int → Int → Int → Int → Int → Option (Int)
  | 0, _, _, _, _, _, _, _, _, _, _, _ => none
  | k + 1, x0, x3, x8, x9, x10, x15, x259000, x259001, x259002, x259003, x259004 => if x15 = true then (some 4) else (if x259002 < (-150) then (wind_Check.j2 k x0 x3 x8 x9 x10 true x259000 x259001 x259002 x259003 x259004) else (if x259002 > 150 then (wind_Check.j2 k x0 x3 x8 x9 x10 true x259000 x259001 x259002 x259003 x259004) else (if x259003 < (-150) then (wind_Check.j2 k x0 x3 x8 x9 x10 true x259000 x259001 x259002 x259003 x259004) else (if x259003 > 150 then (wind_Check.j2 k x0 x3 x8 x9 x10 true x259000 x259001 x259002 x259003 x259004) else (if x259004 < 0 then (wind_Check.j2 k x0 x3 x8 x9 x10 true x259000 x259001 x259002 x259003 x259004) else (wind_Check.j2 k x0 x3 x8 x9 x10 (decide (x259004 > 100)) x259000 x259001 x259002 x259003 x259004))))))
def wind_Check.j2 : Nat → List (S131) → Int → List (S131) → Int → Int → Bool → Int → Int → Int → Int → Int → Option (Int)
  | 0, _, _, _, _, _, _, _, _, _, _, _ => none
  | k + 1, x0, x3, x8, x9, x10, x31, x259000, x259001, x259002, x259003, x259004 => if x31 = true then (some 4) else (if x3 > 0 then (if 0 ≤ (wrap64 (x3 - 1)) then (if (wrap64 (x3 - 1)) < (x0.length : Int) then (if x259000 < ((rd_T131 x0 (wrap64 (x3 - 1))).f1) then (some 3) else (wind_Check.l0 k x0 x8 x9 (wrap64 (x10 + 1)))) else (none)) else (none)) else (wind_Check.l0 k x0 x8 x9 (wrap64 (x10 + 1))))
end
def wind_Check.f (k : Nat) (l0 : List (S131)) : Option (Int) := if (l0.length : Int) > 16 then (some 2) else (wind_Check.l0 k l0 l0 (l0.length : Int) 0)
theorem wind_Check.mono_l : ∀ k, (∀ y0 y1 y2 y3, LeO (wind_Check.l0 k y0 y1 y2 y3) (wind_Check.l0 (k + 1) y0 y1 y2 y3)) ∧ (∀ y0 y1 y2 y3 y4 y5 y6 y7 y8 y9 y10, LeO (wind_Check.j1 k y0 y1 y2 y3 y4 y5 y6 y7 y8 y9 y10) (wind_Check.j1 (k + 1) y0 y1 y2 y3 y4 y5 y6 y7 y8 y9 y10)) ∧ (∀ y0 y1 y2 y3 y4 y5 y6 y7 y8 y9 y10, LeO (wind_Check.j2 k y0 y1 y2 y3 y4 y5 y6 y7 y8 y9 y10) (wind_Check.j2 (k + 1) y0 y1 y2 y3 y4 y5 y6 y7 y8 y9 y10))
  | 0 => ⟨fun _ _ _ _ r h => by simp [wind_Check.l0] at h, fun _ _ _ _ _ _ _ _ _ _ _ r h => by simp [wind_Check.j1] at h, fun _ _ _ _ _ _ _ _ _ _ _ r h => by simp [wind_Check.j2] at h⟩
  | k + 1 => by
    obtain ⟨ih0, ih1, ih2⟩ := wind_Check.mono_l k; refine ⟨?_, ?_, ?_⟩
    · intro y0 y1 y2 y3; unfold wind_Check.l0
      repeat' with_reducible first | apply ih0 | apply ih1 | apply ih2 | apply LeO.refl | apply LeO.none | apply LeO.ite | refine LeO.bind ?_ (fun _ => ?_)
    · intro y0 y1 y2 y3 y4 y5 y6 y7 y8 y9 y10; unfold wind_Check.j1
      repeat' with_reducible first | apply ih0 | apply ih1 | apply ih2 | apply LeO.refl | apply LeO.none | apply LeO.ite | refine LeO.bind ?_ (fun _ => ?_)
    · intro y0 y1 y2 y3 y4 y5 y6 y7 y8 y9 y10; unfold wind_Check.j2
      repeat' with_reducible first | apply ih0 | apply ih1 | apply ih2 | apply LeO.refl | apply LeO.none | apply LeO.ite | refine LeO.bind ?_ (fun _ => ?_)
theorem wind_Check.mono : ∀ a0 k, LeO (wind_Check.f k a0) (wind_Check.f (k + 1) a0) := by
  intro a0 k; obtain ⟨ih0, ih1, ih2⟩ := wind_Check.mono_l k; unfold wind_Check.f
  repeat' with_reducible first | apply ih0 | apply ih1 | apply ih2 | apply LeO.refl | apply LeO.none | apply LeO.ite | refine LeO.bind ?_ (fun _ => ?_)
theorem wind_Check.calls (k : Nat) (A0 : Option Addr) (c0 : Nat) (l0 : List (S131)) (r : Int) (w : World) (hr0 : Kd.C k131 w A0 l0.length l0) (hc0 : l0.length ≤ c0) (h : wind_Check.f k l0 = some r) :
    Calls Tryz.prog 61 #[.slice A0 l0.length c0] w fun e w' => e = .returned (.int .i64 r) ∧ Below w.heap.size w w' := by
 have hu131 := Tryz.underlying131; have HR0 := Aside0.mk hr0; have HC0 := Aside0.mk hc0; clear hr0 hc0; have HB := Aside0.mk (Below.refl w.heap.size w); have H := h; unfold wind_Check.f at H; clear h
 by_cases c2 : (l0.length : Int) > 16
 · rw [if_pos c2] at H; have c2b0 := decide_eq_true c2; have c2b1 : decide (16 < l0.length) = true := decide_eq_true (by omega); clear c2; obtain rfl := Option.some.inj H; go_enter Tryz.func61, Tryz.ntmps61; go_wp2
   repeat (go_quiet (fail); try go_wp2)
   go_ret
   exact ⟨er_, bel_s⟩
 · rw [if_neg c2] at H; have c2b0 := decide_eq_false c2; have c2b1 : decide (16 < l0.length) = false := decide_eq_false (by omega); clear c2; have H' := Aside0.mk H; clear H; go_enter Tryz.func61, Tryz.ntmps61; go_wp2
   repeat (go_quiet (fail); try go_wp2)
   go_loopg [10] k (fun kq v10 w' => ∃ (x10_1 : Int), v10 = .int .i64 x10_1 ∧ Aside0 (wind_Check.l0 kq l0 l0 (l0.length : Int) x10_1 = some r) ∧ Aside0 (kq ≤ k) ∧ Aside0 (Below w.heap.size w w'))
   case atStart => exact ⟨(0), rs_, H', ⟨Nat.le_refl _⟩, ⟨bel_s⟩⟩
   case round =>
    clear H'
    obtain ⟨x10_1, rfl, HA, HK1, HB⟩ := hrel
    cases gk with
    | zero => exact absurd HA.out (by simp [wind_Check.l0])
    | succ k1 =>
     have H := HA.out; clear HA; simp only [wind_Check.l0] at H
     by_cases c3 : x10_1 < (l0.length : Int)
     · rw [if_pos c3] at H; have c3b0 := decide_eq_true c3; clear c3
       obtain ⟨c4b0, H⟩ := ip_ H
       obtain ⟨c5b0, H⟩ := ip_ H; have HC6 := Aside0.mk H; clear H
       have p257 : 0 ≤ (x10_1 : Int) := od_
       have q257 : x10_1 < (l0.length : Int) := od_
       obtain ⟨ad257, e257, hx257_0, hx257_1, hx257_2, hx257_3, hx257_4⟩ := at_T131 HR0.out x10_1 p257 q257; cases e257; replace hx257_0 := cl HB hx257_0; replace hx257_1 := cl HB hx257_1; replace hx257_2 := cl HB hx257_2; replace hx257_3 := cl HB hx257_3; replace hx257_4 := cl HB hx257_4; replace p257 := eq_true p257; replace q257 := eq_true q257
       go_upto_region 6 with (first | ((with_reducible refine gate_dst (N := 4) rfl ?_); refine box_s #[.int .i64 0, .int .i64 0, .int .i64 0, .int .i64 0, .int .i64 0] 131 ?_; intro gb258 hg wxb7f91 hbox hb; have BK258 := Aside0.mk (hbox); have GW258 := ge HB hg; have GE258 := ge HB hg; replace HB := st HB hb; clear hb hbox hg; obtain ⟨hczxb7f91, hczxb7f92, hczxb7f93, hczxb7f94, hczxb7f95, hfzxb7f91, hfzxb7f92, hfzxb7f93, hfzxb7f94, hfzxb7f95⟩ := bq5 BK258))
       repeat (go_quiet (first | ((with_reducible refine gate_dst (N := 4) rfl ?_); refine box_s #[.int .i64 0, .int .i64 0, .int .i64 0, .int .i64 0, .int .i64 0] 131 ?_; intro gb258 hg wxb7f91 hbox hb; have BK258 := Aside0.mk (hbox); have GW258 := ge HB hg; have GE258 := ge HB hg; replace HB := st HB hb; clear hb hbox hg; obtain ⟨hczxb7f91, hczxb7f92, hczxb7f93, hczxb7f94, hczxb7f95, hfzxb7f91, hfzxb7f92, hfzxb7f93, hfzxb7f94, hfzxb7f95⟩ := bq5 BK258)); go_upto_region 6 with (first | ((with_reducible refine gate_dst (N := 4) rfl ?_); refine box_s #[.int .i64 0, .int .i64 0, .int .i64 0, .int .i64 0, .int .i64 0] 131 ?_; intro gb258 hg wxb7f91 hbox hb; have BK258 := Aside0.mk (hbox); have GW258 := ge HB hg; have GE258 := ge HB hg; replace HB := st HB hb; clear hb hbox hg; obtain ⟨hczxb7f91, hczxb7f92, hczxb7f93, hczxb7f94, hczxb7f95, hfzxb7f91, hfzxb7f92, hfzxb7f93, hfzxb7f94, hfzxb7f95⟩ := bq5 BK258)))
       (try simp only [Act.put, List.setIfInBounds_toArray, List.set_cons_zero, List.set_cons_succ])
       go_cut [15] (fun v15 wc => ∃ (kq : Nat) (x15_5 : Bool), v15 = .bool x15_5 ∧ Aside0 (wind_Check.j1 kq l0 x10_1 l0 (l0.length : Int) x10_1 x15_5 ((rd_T131 l0 x10_1).f0) ((rd_T131 l0 x10_1).f1) ((rd_T131 l0 x10_1).f2.f0) ((rd_T131 l0 x10_1).f2.f1) ((rd_T131 l0 x10_1).f3) = some r) ∧ Aside0 (kq ≤ k1) ∧ Aside0 (wc.heap[gb258]? = some (.cells #[.int .i64 ((rd_T131 l0 x10_1).f0), .int .i64 ((rd_T131 l0 x10_1).f1), .int .i64 ((rd_T131 l0 x10_1).f2.f0), .int .i64 ((rd_T131 l0 x10_1).f2.f1), .int .i64 ((rd_T131 l0 x10_1).f3)] 131 (0, 0))) ∧ Aside0 (Below w.heap.size w wc))
       case first =>
        have H := HC6.out; clear HC6; refine Or.elim (Classical.em (((rd_T131 l0 x10_1).f0) < 0)) (fun c9 => ?p2_) (fun c9 => ?n2_)
        case' p2_ =>
         rw [if_pos c9] at H; have c9b0 := decide_eq_true c9; clear c9
         (first | rw [c9b0] | (simp only [i64_w, i32_w]; rw [c9b0]) | skip)
        case' n2_ =>
         rw [if_neg c9] at H; have c9b0 := decide_eq_false c9; clear c9
         (first | rw [c9b0] | (simp only [i64_w, i32_w]; rw [c9b0]) | skip)
         refine Or.elim (Classical.em (((rd_T131 l0 x10_1).f1) > 60001)) (fun c11 => ?p3_) (fun c11 => ?n3_)
         case' p3_ =>
          rw [if_pos c11] at H; have c11b0 := decide_eq_true c11; clear c11
         case' n3_ =>
          rw [if_neg c11] at H; have c11b0 := decide_eq_false c11; clear c11
        all_goals
         have H' := Aside0.mk H; clear H; obtain ⟨hczzd1, hczzd2, hczzd3, hczzd4, hczzd5, hfzzd1, hfzzd2, hfzzd3, hfzzd4, hfzzd5⟩ := bq5 BK258; go_wp2
         repeat (go_quiet (fail); try go_wp2)
         go_meet
         case rel => first | (exact ⟨_, (true), rs_, H', ⟨by have := HK1.out; first | omega | exact Nat.le_refl _⟩, ⟨by (with_reducible repeat (first | refine blk_drewN ?_ _ | refine blk_drew ?_ | refine blk_alloc ?_ _)); refine blk_put (cs := #[.int .i64 ((rd_T131 l0 x10_1).f0), .int .i64 ((rd_T131 l0 x10_1).f1), .int .i64 ((rd_T131 l0 x10_1).f2.f0), .int .i64 ((rd_T131 l0 x10_1).f2.f1), .int .i64 0]) ?_ 4 _ rfl; (with_reducible repeat (first | refine blk_drewN ?_ _ | refine blk_drew ?_ | refine blk_alloc ?_ _)); refine blk_put (cs := #[.int .i64 ((rd_T131 l0 x10_1).f0), .int .i64 ((rd_T131 l0 x10_1).f1), .int .i64 ((rd_T131 l0 x10_1).f2.f0), .int .i64 0, .int .i64 0]) ?_ 3 _ rfl; (with_reducible repeat (first | refine blk_drewN ?_ _ | refine blk_drew ?_ | refine blk_alloc ?_ _)); refine blk_put (cs := #[.int .i64 ((rd_T131 l0 x10_1).f0), .int .i64 ((rd_T131 l0 x10_1).f1), .int .i64 0, .int .i64 0, .int .i64 0]) ?_ 2 _ rfl; (with_reducible repeat (first | refine blk_drewN ?_ _ | refine blk_drew ?_ | refine blk_alloc ?_ _)); refine blk_put (cs := #[.int .i64 ((rd_T131 l0 x10_1).f0), .int .i64 0, .int .i64 0, .int .i64 0, .int .i64 0]) ?_ 1 _ rfl; (with_reducible repeat (first | refine blk_drewN ?_ _ | refine blk_drew ?_ | refine blk_alloc ?_ _)); refine blk_put (cs := #[.int .i64 0, .int .i64 0, .int .i64 0, .int .i64 0, .int .i64 0]) ?_ 0 _ rfl; (with_reducible repeat (first | refine blk_drewN ?_ _ | refine blk_drew ?_ | refine blk_alloc ?_ _)); exact BK258.out⟩, ⟨bel_s⟩⟩) | (exact ⟨_, (decide (((rd_T131 l0 x10_1).f0) ≥ ((rd_T131 l0 x10_1).f1))), rs_, H', ⟨by have := HK1.out; first | omega | exact Nat.le_refl _⟩, ⟨by (with_reducible repeat (first | refine blk_drewN ?_ _ | refine blk_drew ?_ | refine blk_alloc ?_ _)); refine blk_put (cs := #[.int .i64 ((rd_T131 l0 x10_1).f0), .int .i64 ((rd_T131 l0 x10_1).f1), .int .i64 ((rd_T131 l0 x10_1).f2.f0), .int .i64 ((rd_T131 l0 x10_1).f2.f1), .int .i64 0]) ?_ 4 _ rfl; (with_reducible repeat (first | refine blk_drewN ?_ _ | refine blk_drew ?_ | refine blk_alloc ?_ _)); refine blk_put (cs := #[.int .i64 ((rd_T131 l0 x10_1).f0), .int .i64 ((rd_T131 l0 x10_1).f1), .int .i64 ((rd_T131 l0 x10_1).f2.f0), .int .i64 0, .int .i64 0]) ?_ 3 _ rfl; (with_reducible repeat (first | refine blk_drewN ?_ _ | refine blk_drew ?_ | refine blk_alloc ?_ _)); refine blk_put (cs := #[.int .i64 ((rd_T131 l0 x10_1).f0), .int .i64 ((rd_T131 l0 x10_1).f1), .int .i64 0, .int .i64 0, .int .i64 0]) ?_ 2 _ rfl; (with_reducible repeat (first | refine blk_drewN ?_ _ | refine blk_drew ?_ | refine blk_alloc ?_ _)); refine blk_put (cs := #[.int .i64 ((rd_T131 l0 x10_1).f0), .int .i64 0, .int .i64 0, .int .i64 0, .int .i64 0]) ?_ 1 _ rfl; (with_reducible repeat (first | refine blk_drewN ?_ _ | refine blk_drew ?_ | refine blk_alloc ?_ _)); refine blk_put (cs := #[.int .i64 0, .int .i64 0, .int .i64 0, .int .i64 0, .int .i64 0]) ?_ 0 _ rfl; (with_reducible repeat (first | refine blk_drewN ?_ _ | refine blk_drew ?_ | refine blk_alloc ?_ _)); exact BK258.out⟩, ⟨bel_s⟩⟩)
       case rest =>
        clear HC6
        obtain ⟨kq, x15_5, rfl, HA, HJ5, BK258, HB⟩ := hcut
        cases kq with
        | zero => exact absurd HA.out (by simp [wind_Check.j1])
        | succ kj5 =>
         have H := HA.out; clear HA; simp only [wind_Check.j1] at H
         by_cases c14 : x15_5 = true
         · subst c14
           rw [if_pos rfl] at H; (try dsimp only at H); obtain rfl := Option.some.inj H; go_wp2
           repeat (go_quiet (fail); try go_wp2)
           go_ret
           exact ⟨er_, bel_s⟩
         · replace c14 := Bool.eq_false_iff.mpr c14; subst c14
           rw [if_neg (show ¬ (false = true) by decide)] at H; (try dsimp only at H); have HC15 := Aside0.mk H; clear H
           go_upto_region 8 with (fail)
           repeat (go_quiet (fail); go_upto_region 8 with (fail))
           go_cut [31] (fun v31 wc => ∃ (kq : Nat) (x31_14 : Bool), v31 = .bool x31_14 ∧ Aside0 (wind_Check.j2 kq l0 x10_1 l0 (l0.length : Int) x10_1 x31_14 ((rd_T131 l0 x10_1).f0) ((rd_T131 l0 x10_1).f1) ((rd_T131 l0 x10_1).f2.f0) ((rd_T131 l0 x10_1).f2.f1) ((rd_T131 l0 x10_1).f3) = some r) ∧ Aside0 (kq ≤ kj5) ∧ Aside0 (wc.heap[gb258]? = some (.cells #[.int .i64 ((rd_T131 l0 x10_1).f0), .int .i64 ((rd_T131 l0 x10_1).f1), .int .i64 ((rd_T131 l0 x10_1).f2.f0), .int .i64 ((rd_T131 l0 x10_1).f2.f1), .int .i64 ((rd_T131 l0 x10_1).f3)] 131 (0, 0))) ∧ Aside0 (Below w.heap.size w wc))
           case first =>
            have H := HC15.out; clear HC15; refine Or.elim (Classical.em (((rd_T131 l0 x10_1).f2.f0) < (-150))) (fun c16 => ?p5_) (fun c16 => ?n5_)
            case' p5_ =>
             rw [if_pos c16] at H; have c16b0 := decide_eq_true c16; clear c16
             (first | rw [c16b0] | (simp only [i64_w, i32_w]; rw [c16b0]) | skip)
            case' n5_ =>
             rw [if_neg c16] at H; have c16b0 := decide_eq_false c16; clear c16
             (first | rw [c16b0] | (simp only [i64_w, i32_w]; rw [c16b0]) | skip)
             refine Or.elim (Classical.em (((rd_T131 l0 x10_1).f2.f0) > 150)) (fun c18 => ?p6_) (fun c18 => ?n6_)
             case' p6_ =>
              rw [if_pos c18] at H; have c18b0 := decide_eq_true c18; clear c18
             case' n6_ =>
              rw [if_neg c18] at H; have c18b0 := decide_eq_false c18; clear c18; refine Or.elim (Classical.em (((rd_T131 l0 x10_1).f2.f1) < (-150))) (fun c20 => ?p7_) (fun c20 => ?n7_)
              case' p7_ =>
               rw [if_pos c20] at H; have c20b0 := decide_eq_true c20; clear c20
              case' n7_ =>
               rw [if_neg c20] at H; have c20b0 := decide_eq_false c20; clear c20; refine Or.elim (Classical.em (((rd_T131 l0 x10_1).f2.f1) > 150)) (fun c22 => ?p8_) (fun c22 => ?n8_)
               case' p8_ =>
                rw [if_pos c22] at H; have c22b0 := decide_eq_true c22; clear c22
               case' n8_ =>
                rw [if_neg c22] at H; have c22b0 := decide_eq_false c22; clear c22; refine Or.elim (Classical.em (((rd_T131 l0 x10_1).f3) < 0)) (fun c24 => ?p9_) (fun c24 => ?n9_)
                case' p9_ =>
                 rw [if_pos c24] at H; have c24b0 := decide_eq_true c24; clear c24
                case' n9_ =>
                 rw [if_neg c24] at H; have c24b0 := decide_eq_false c24; clear c24
            all_goals
             have H' := Aside0.mk H; clear H; obtain ⟨hczzf1, hczzf2, hczzf3, hczzf4, hczzf5, hfzzf1, hfzzf2, hfzzf3, hfzzf4, hfzzf5⟩ := bq5 BK258; go_wp2
             repeat (go_quiet (fail); try go_wp2)
             go_meet
             case rel => first | (exact ⟨_, (true), rs_, H', ⟨by have := HK1.out; have := HJ5.out; first | omega | exact Nat.le_refl _⟩, ⟨blk_s⟩, ⟨bel_s⟩⟩) | (exact ⟨_, (decide (((rd_T131 l0 x10_1).f3) > 100)), rs_, H', ⟨by have := HK1.out; have := HJ5.out; first | omega | exact Nat.le_refl _⟩, ⟨blk_s⟩, ⟨bel_s⟩⟩)
           case rest =>
            clear HC15
            obtain ⟨kq, x31_14, rfl, HA, HJ14, BK258, HB⟩ := hcut
            cases kq with
            | zero => exact absurd HA.out (by simp [wind_Check.j2])
            | succ kj14 =>
             have H := HA.out; clear HA; simp only [wind_Check.j2] at H; refine Or.elim (Classical.em (x31_14 = true)) (fun c27 => ?p11_) (fun c27 => ?n11_)
             case' p11_ =>
              subst c27
              rw [if_pos rfl] at H; (try dsimp only at H); have hm10_0 := Aside0.mk trivial
             case' n11_ =>
              replace c27 := Bool.eq_false_iff.mpr c27; subst c27
              rw [if_neg (show ¬ (false = true) by decide)] at H; (try dsimp only at H); refine Or.elim (Classical.em (x10_1 > 0)) (fun c28 => ?p12_) (fun c28 => ?n12_)
              case' p12_ =>
               rw [if_pos c28] at H; have c28b0 := decide_eq_true c28; clear c28; obtain ⟨ji29, hji29⟩ : ∃ j_ : Int, (wrap64 (x10_1 - 1)) = j_ := ⟨_, rfl⟩
               (first | rw [hji29] at H | simp only [hji29] at H)
               have hji29w : (IntKind.i64.wrap (x10_1 - 1)) = ji29 := (i64_w _).trans hji29; obtain ⟨c30b0, H⟩ := ip_ H; obtain ⟨c31b0, H⟩ := ip_ H; refine Or.elim (Classical.em (((rd_T131 l0 x10_1).f0) < ((rd_T131 l0 (ji29)).f1))) (fun c32 => ?p15_) (fun c32 => ?n15_)
               case' p15_ =>
                rw [if_pos c32] at H; have c32b0 := decide_eq_true c32; clear c32; have hm10_1 := Aside0.mk trivial
               case' n15_ =>
                rw [if_neg c32] at H; have c32b0 := decide_eq_false c32; clear c32; have hm10_2 := Aside0.mk trivial
              case' n12_ =>
               rw [if_neg c28] at H; have c28b0 := decide_eq_false c28; clear c28; have hm10_3 := Aside0.mk trivial
             all_goals
              first
               | (first | (have _hm := hm10_0) | (have _hm := hm10_1))
                 obtain rfl := Option.some.inj H
                 first
                  | clear hm10_0; go_wp2
                    repeat (go_quiet (fail); try go_wp2)
                    go_ret
                    exact ⟨er_, bel_s⟩
                  | clear hm10_1; obtain ⟨hczzg1, hczzg2, hczzg3, hczzg4, hczzg5, hfzzg1, hfzzg2, hfzzg3, hfzzg4, hfzzg5⟩ := bq5 BK258
                    have p259 : 0 ≤ ((ji29) : Int) := od_
                    have q259 : (ji29) < (l0.length : Int) := od_
                    obtain ⟨ad259, e259, hx259_0, hx259_1, hx259_2, hx259_3, hx259_4⟩ := at_T131 HR0.out (ji29) p259 q259; obtain rfl : ad257 = ad259 := (by injection e259); replace hx259_0 := cl HB hx259_0; replace hx259_1 := cl HB hx259_1; replace hx259_2 := cl HB hx259_2; replace hx259_3 := cl HB hx259_3; replace hx259_4 := cl HB hx259_4; replace p259 := eq_true p259; replace q259 := eq_true q259; go_wp2
                    repeat (go_quiet (fail); try go_wp2)
                    go_ret
                    exact ⟨by first | rfl | (simp [errW_none, errW_some] <;> rfl) | (simp only [← hji29]; first | rfl | (simp [errW_none, errW_some] <;> rfl)) | (simp [*, errW_none, errW_some] <;> rfl), bel_s⟩
               | (first | (have _hm := hm10_2) | (have _hm := hm10_3))
                 have H' := Aside0.mk H; clear H
                 first
                  | clear hm10_2; obtain ⟨hczzg1, hczzg2, hczzg3, hczzg4, hczzg5, hfzzg1, hfzzg2, hfzzg3, hfzzg4, hfzzg5⟩ := bq5 BK258
                    have p259 : 0 ≤ ((ji29) : Int) := od_
                    have q259 : (ji29) < (l0.length : Int) := od_
                    obtain ⟨ad259, e259, hx259_0, hx259_1, hx259_2, hx259_3, hx259_4⟩ := at_T131 HR0.out (ji29) p259 q259; obtain rfl : ad257 = ad259 := (by injection e259); replace hx259_0 := cl HB hx259_0; replace hx259_1 := cl HB hx259_1; replace hx259_2 := cl HB hx259_2; replace hx259_3 := cl HB hx259_3; replace hx259_4 := cl HB hx259_4; replace p259 := eq_true p259; replace q259 := eq_true q259; go_wp2
                    repeat (go_quiet (fail); try go_wp2)
                    first | go_roundg kj14 | (subst hji29; go_roundg kj14)
                    case measure => have := HK1.out; have := HJ5.out; have := HJ14.out; omega
                    case rel => exact ⟨(wrap64 (x10_1 + 1)), rs_, H', ⟨by have := HK1.out; have := HJ5.out; have := HJ14.out; omega⟩, ⟨bel_s⟩⟩
                  | clear hm10_3; go_wp2
                    repeat (go_quiet (fail); try go_wp2)
                    go_roundg kj14
                    case measure => have := HK1.out; have := HJ5.out; have := HJ14.out; omega
                    case rel => exact ⟨(wrap64 (x10_1 + 1)), rs_, H', ⟨by have := HK1.out; have := HJ5.out; have := HJ14.out; omega⟩, ⟨bel_s⟩⟩
     · rw [if_neg c3] at H; have c3b0 := decide_eq_false c3; clear c3; obtain rfl := Option.some.inj H; go_wp2
       repeat (go_quiet (fail); try go_wp2)
       go_ret
       exact ⟨er_, bel_s⟩
end Go.Proofs.YthpbpdobghceeaaGreatDoor.PFlyWinds
