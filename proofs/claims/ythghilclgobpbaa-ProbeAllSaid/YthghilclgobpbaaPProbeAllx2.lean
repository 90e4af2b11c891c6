/- Made by a program of this session (wip/tools/myprint.py, over the kit's printer): that the Go functions answer as the Lean functions printed beside them. -/
import Derived.Test.YthghilclgobpbaaTSq2
import Derived.Test.YthghilclgobpbaaPProbeAllx0
namespace Go.Proofs.Ythghilclgobpbaa.PProbeAll
open Go.RowKit Go.Proofs.YthghilclgobpbaaW.PrintWords Go.Proofs.YthghilclgobpbaaW.PrintLast Go.Proofs.YthghilclgobpbaaW.PrintMore
attribute [local go_sem] max2_int min2_int max_two min_two max_three min_three max_four min_four   -- for this text's walks alone
set_option linter.unusedVariables false
set_option linter.unusedSimpArgs false

/-! ### probe_CheckSep: function 44 -/
def probe_CheckSep.f (a0_0 : Int) (a0_1 : Int) : Option (Int) := if a0_0 < 0 then (some 4) else (if a0_0 > 1000000 then (some 4) else (if a0_1 < 0 then (some 4) else (if a0_1 > 60000 then (some 4) else (some 0))))
set_option maxHeartbeats 8000000 in
set_option maxRecDepth 100000 in
theorem probe_CheckSep.calls (a0_0 : Int) (a0_1 : Int) (r : Int) (w : World) (h : probe_CheckSep.f a0_0 a0_1 = some r) :
    Calls Try.prog 44 #[.agg #[.int .i64 a0_0, .int .i64 a0_1]] w fun e w' => e = .returned (.int .i64 r) ∧ Below w.heap.size w w' := by
 have hu51 := Try.underlying51; have HB := Aside0.mk (Below.refl w.heap.size w); have H : (if a0_0 < 0 then (some 4) else (if a0_0 > 1000000 then (some 4) else (if a0_1 < 0 then (some 4) else (if a0_1 > 60000 then (some 4) else (some 0))))) = some r := h; clear h; refine Or.elim (Classical.em (a0_0 < 0)) (fun c2 => ?p2_) (fun c2 => ?n2_)
 case' p2_ =>
  rw [if_pos c2] at H; have c2b0 : decide (a0_0 < 0) = true := decide_eq_true c2; clear c2
 case' n2_ =>
  rw [if_neg c2] at H; have c2b0 : decide (a0_0 < 0) = false := decide_eq_false c2; clear c2; refine Or.elim (Classical.em (a0_0 > 1000000)) (fun c5 => ?p3_) (fun c5 => ?n3_)
  case' p3_ =>
   rw [if_pos c5] at H; have c5b0 : decide (1000000 < a0_0) = true := decide_eq_true c5; clear c5
  case' n3_ =>
   rw [if_neg c5] at H; have c5b0 : decide (1000000 < a0_0) = false := decide_eq_false c5; clear c5; refine Or.elim (Classical.em (a0_1 < 0)) (fun c8 => ?p4_) (fun c8 => ?n4_)
   case' p4_ =>
    rw [if_pos c8] at H; have c8b0 : decide (a0_1 < 0) = true := decide_eq_true c8; clear c8
   case' n4_ =>
    rw [if_neg c8] at H; have c8b0 : decide (a0_1 < 0) = false := decide_eq_false c8; clear c8; refine Or.elim (Classical.em (a0_1 > 60000)) (fun c11 => ?p5_) (fun c11 => ?n5_)
    case' p5_ =>
     rw [if_pos c11] at H; have c11b0 : decide (60000 < a0_1) = true := decide_eq_true c11; clear c11
    case' n5_ =>
     rw [if_neg c11] at H; have c11b0 : decide (60000 < a0_1) = false := decide_eq_false c11; clear c11
 all_goals
  obtain rfl := Option.some.inj H; go_enter Try.func44, Try.ntmps44
  go_wp2_with (first | ((with_reducible refine gate_dst (N := 1) rfl ?_); refine box_s #[.int .i64 a0_0, .int .i64 a0_1] 51 ?_; intro gb101 hg wx88f71 hbox hb; have n0_ := st HB hb; have n1_ := Aside0.mk (hbox); have n2_ := ge HB hg; have n3_ := ge HB hg; clear HB; have HB := n0_; have BK101 := n1_; have GW101 := n2_; have GE101 := n3_; clear n0_ n1_ n2_ n3_; clear hb hbox hg; have hczx88f71 : wx88f71.cell? ⟨gb101, 0, none⟩ = some (.int .i64 a0_0) := bc BK101 0; have hczx88f72 : wx88f71.cell? ⟨gb101, 1, none⟩ = some (.int .i64 a0_1) := bc BK101 1; have hfzx88f71 := blk_frozen BK101.out 0; have hfzx88f72 := blk_frozen BK101.out 1))
  go_ret
  exact ⟨by first | rfl | (simp [errW_none, errW_some] <;> rfl) | (simp [*, errW_none, errW_some] <;> rfl), by repeat (first | (with_reducible first | exact HB.out | apply below_alloc | apply pw_below_drewN | apply below_drew1 | refine below_set ?_ GE101.out) | exact HB.out)⟩

/-! ### plane_Check: function 37 -/
def plane_Check.f (a0_0 : Int) (a0_1 : Int) : Option (Int) := if a0_0 < (-1000000) then (some 4) else (if a0_0 > 1000000 then (some 4) else (if a0_1 < (-1000000) then (some 4) else (if a0_1 > 1000000 then (some 4) else (some 0))))
set_option maxHeartbeats 8000000 in
set_option maxRecDepth 100000 in
theorem plane_Check.calls (a0_0 : Int) (a0_1 : Int) (r : Int) (w : World) (h : plane_Check.f a0_0 a0_1 = some r) :
    Calls Try.prog 37 #[.agg #[.int .i64 a0_0, .int .i64 a0_1]] w fun e w' => e = .returned (.int .i64 r) ∧ Below w.heap.size w w' := by
 have hu41 := Try.underlying41; have HB := Aside0.mk (Below.refl w.heap.size w); have H : (if a0_0 < (-1000000) then (some 4) else (if a0_0 > 1000000 then (some 4) else (if a0_1 < (-1000000) then (some 4) else (if a0_1 > 1000000 then (some 4) else (some 0))))) = some r := h; clear h; refine Or.elim (Classical.em (a0_0 < (-1000000))) (fun c2 => ?p2_) (fun c2 => ?n2_)
 case' p2_ =>
  rw [if_pos c2] at H; have c2b0 : decide (a0_0 < (-1000000)) = true := decide_eq_true c2; clear c2
 case' n2_ =>
  rw [if_neg c2] at H; have c2b0 : decide (a0_0 < (-1000000)) = false := decide_eq_false c2; clear c2; refine Or.elim (Classical.em (a0_0 > 1000000)) (fun c5 => ?p3_) (fun c5 => ?n3_)
  case' p3_ =>
   rw [if_pos c5] at H; have c5b0 : decide (1000000 < a0_0) = true := decide_eq_true c5; clear c5
  case' n3_ =>
   rw [if_neg c5] at H; have c5b0 : decide (1000000 < a0_0) = false := decide_eq_false c5; clear c5; refine Or.elim (Classical.em (a0_1 < (-1000000))) (fun c8 => ?p4_) (fun c8 => ?n4_)
   case' p4_ =>
    rw [if_pos c8] at H; have c8b0 : decide (a0_1 < (-1000000)) = true := decide_eq_true c8; clear c8
   case' n4_ =>
    rw [if_neg c8] at H; have c8b0 : decide (a0_1 < (-1000000)) = false := decide_eq_false c8; clear c8; refine Or.elim (Classical.em (a0_1 > 1000000)) (fun c11 => ?p5_) (fun c11 => ?n5_)
    case' p5_ =>
     rw [if_pos c11] at H; have c11b0 : decide (1000000 < a0_1) = true := decide_eq_true c11; clear c11
    case' n5_ =>
     rw [if_neg c11] at H; have c11b0 : decide (1000000 < a0_1) = false := decide_eq_false c11; clear c11
 all_goals
  obtain rfl := Option.some.inj H; go_enter Try.func37, Try.ntmps37
  go_wp2_with (first | ((with_reducible refine gate_dst (N := 1) rfl ?_); refine box_s #[.int .i64 a0_0, .int .i64 a0_1] 41 ?_; intro gb102 hg wx78aa1 hbox hb; have n0_ := st HB hb; have n1_ := Aside0.mk (hbox); have n2_ := ge HB hg; have n3_ := ge HB hg; clear HB; have HB := n0_; have BK102 := n1_; have GW102 := n2_; have GE102 := n3_; clear n0_ n1_ n2_ n3_; clear hb hbox hg; have hczx78aa1 : wx78aa1.cell? ⟨gb102, 0, none⟩ = some (.int .i64 a0_0) := bc BK102 0; have hczx78aa2 : wx78aa1.cell? ⟨gb102, 1, none⟩ = some (.int .i64 a0_1) := bc BK102 1; have hfzx78aa1 := blk_frozen BK102.out 0; have hfzx78aa2 := blk_frozen BK102.out 1))
  go_ret
  exact ⟨by first | rfl | (simp [errW_none, errW_some] <;> rfl) | (simp [*, errW_none, errW_some] <;> rfl), by repeat (first | (with_reducible first | exact HB.out | apply below_alloc | apply pw_below_drewN | apply below_drew1 | refine below_set ?_ GE102.out) | exact HB.out)⟩

/-! ### tube_Check: function 70 -/
mutual
def tube_Check.l0 : Nat → List (S95) → List (S95) → Int → Int → Option (Int)
  | 0, _, _, _, _ => none
  | k + 1, x0, x14, x15, x16 => if x16 < x15 then (if 0 ≤ x16 then (if x16 < (x14.length : Int) then (if ((rd_T95 x14 x16).f0.f0) < 0 then (tube_Check.j1 k x0 x14 x15 x16 true ((rd_T95 x14 x16).f0.f0) ((rd_T95 x14 x16).f0.f1.f0) ((rd_T95 x14 x16).f0.f1.f1) ((rd_T95 x14 x16).f0.f2) ((rd_T95 x14 x16).f1) ((rd_T95 x14 x16).f2)) else (if ((rd_T95 x14 x16).f0.f0) > 200000 then (tube_Check.j1 k x0 x14 x15 x16 true ((rd_T95 x14 x16).f0.f0) ((rd_T95 x14 x16).f0.f1.f0) ((rd_T95 x14 x16).f0.f1.f1) ((rd_T95 x14 x16).f0.f2) ((rd_T95 x14 x16).f1) ((rd_T95 x14 x16).f2)) else (if x16 > 0 then (if 0 ≤ (wrap64 (x16 - 1)) then (if (wrap64 (x16 - 1)) < (x0.length : Int) then (tube_Check.j1 k x0 x14 x15 x16 (decide (((rd_T95 x14 x16).f0.f0) ≤ ((rd_T95 x0 (wrap64 (x16 - 1))).f0.f0))) ((rd_T95 x14 x16).f0.f0) ((rd_T95 x14 x16).f0.f1.f0) ((rd_T95 x14 x16).f0.f1.f1) ((rd_T95 x14 x16).f0.f2) ((rd_T95 x14 x16).f1) ((rd_T95 x14 x16).f2)) else (none)) else (none)) else (tube_Check.j1 k x0 x14 x15 x16 false ((rd_T95 x14 x16).f0.f0) ((rd_T95 x14 x16).f0.f1.f0) ((rd_T95 x14 x16).f0.f1.f1) ((rd_T95 x14 x16).f0.f2) ((rd_T95 x14 x16).f1) ((rd_T95 x14 x16).f2))))) else (none)) else (none)) else (some 0)
def tube_Check.j1 : Nat → List (S95) → List (S95) → Int → Int → Bool → Int → Int → Int → Int → Int → Int → Option (Int)
  | 0, _, _, _, _, _, _, _, _, _, _, _ => none
  | k + 1, x0, x14, x15, x16, x47, x105000, x105001, x105002, x105003, x105004, x105005 => if x47 = true then (some 12) else ((plane_Check.f x105001 x105002).bind fun t106 => (if t106 = 0 then (if x105003 < 0 then (some 4) else (if x105003 > 60000 then (some 4) else (if x105004 < 0 then (some 4) else (if x105004 > 1000000 then (some 4) else (if x105005 < 0 then (some 4) else (if x105005 > 60000 then (some 4) else (tube_Check.l0 k x0 x14 x15 (wrap64 (x16 + 1))))))))) else (some t106)))
end
def tube_Check.f (k : Nat) (l0 : List (S95)) : Option (Int) := if (l0.length : Int) > 64 then (some 2) else (if (l0.length : Int) = 0 then (some 3) else (tube_Check.l0 k l0 l0 (l0.length : Int) 0))
theorem tube_Check.mono_l : ∀ k, (∀ y0 y1 y2 y3, LeO (tube_Check.l0 k y0 y1 y2 y3) (tube_Check.l0 (k + 1) y0 y1 y2 y3)) ∧ (∀ y0 y1 y2 y3 y4 y5 y6 y7 y8 y9 y10, LeO (tube_Check.j1 k y0 y1 y2 y3 y4 y5 y6 y7 y8 y9 y10) (tube_Check.j1 (k + 1) y0 y1 y2 y3 y4 y5 y6 y7 y8 y9 y10))
  | 0 => ⟨fun _ _ _ _ r h => by simp [tube_Check.l0] at h, fun _ _ _ _ _ _ _ _ _ _ _ r h => by simp [tube_Check.j1] at h⟩
  | k + 1 => by
    obtain ⟨ih0, ih1⟩ := tube_Check.mono_l k; refine ⟨?_, ?_⟩
    · intro y0 y1 y2 y3; unfold tube_Check.l0
      repeat' first
      | (with_reducible exact ih0 _ _ _ _)
      | (with_reducible exact ih1 _ _ _ _ _ _ _ _ _ _ _)
      | (with_reducible exact LeO.refl _)
      | (with_reducible exact LeO.none _)
      | (with_reducible refine LeO.ite ?_ ?_)
      | (with_reducible refine LeO.bind ?_ (fun _ => ?_))
      | exact ih0 _ _ _ _
      | exact ih1 _ _ _ _ _ _ _ _ _ _ _
      | exact LeO.none _
      | refine LeO.ite ?_ ?_
      | refine LeO.bind ?_ (fun _ => ?_)
    · intro y0 y1 y2 y3 y4 y5 y6 y7 y8 y9 y10; unfold tube_Check.j1
      repeat' first
      | (with_reducible exact ih0 _ _ _ _)
      | (with_reducible exact ih1 _ _ _ _ _ _ _ _ _ _ _)
      | (with_reducible exact LeO.refl _)
      | (with_reducible exact LeO.none _)
      | (with_reducible refine LeO.ite ?_ ?_)
      | (with_reducible refine LeO.bind ?_ (fun _ => ?_))
      | exact ih0 _ _ _ _
      | exact ih1 _ _ _ _ _ _ _ _ _ _ _
      | exact LeO.none _
      | refine LeO.ite ?_ ?_
      | refine LeO.bind ?_ (fun _ => ?_)
theorem tube_Check.mono : ∀ a0 k, LeO (tube_Check.f k a0) (tube_Check.f (k + 1) a0) := by
  intro a0 k; obtain ⟨ih0, ih1⟩ := tube_Check.mono_l k; unfold tube_Check.f
  repeat' first
      | (with_reducible exact ih0 _ _ _ _)
      | (with_reducible exact ih1 _ _ _ _ _ _ _ _ _ _ _)
      | (with_reducible exact LeO.refl _)
      | (with_reducible exact LeO.none _)
      | (with_reducible refine LeO.ite ?_ ?_)
      | (with_reducible refine LeO.bind ?_ (fun _ => ?_))
      | exact ih0 _ _ _ _
      | exact ih1 _ _ _ _ _ _ _ _ _ _ _
      | exact LeO.none _
      | refine LeO.ite ?_ ?_
      | refine LeO.bind ?_ (fun _ => ?_)
set_option maxHeartbeats 8000000 in
set_option maxRecDepth 100000 in
theorem tube_Check.calls (k : Nat) (A0 : Option Addr) (c0 : Nat) (l0 : List (S95)) (r : Int) (w : World) (hr0 : Kd.C k95 w A0 l0.length l0) (hc0 : l0.length ≤ c0) (h : tube_Check.f k l0 = some r) :
    Calls Try.prog 70 #[.slice A0 l0.length c0] w fun e w' => e = .returned (.int .i64 r) ∧ Below w.heap.size w w' := by
 have hu95 := Try.underlying95; have hu41 := Try.underlying41; have HR0 := Aside0.mk hr0; have HC0 := Aside0.mk hc0; clear hr0 hc0; have HB := Aside0.mk (Below.refl w.heap.size w); have H : (if (l0.length : Int) > 64 then (some 2) else (if (l0.length : Int) = 0 then (some 3) else (tube_Check.l0 k l0 l0 (l0.length : Int) 0))) = some r := h; clear h; refine Or.elim (Classical.em ((l0.length : Int) > 64)) (fun c2 => ?p2_) (fun c2 => ?n2_)
 case' p2_ =>
  rw [if_pos c2] at H; have c2b0 : decide (64 < (l0.length : Int)) = true := decide_eq_true c2; have c2b1 : decide (64 < l0.length) = true := decide_eq_true (by omega); clear c2; have hm1_0 := Aside0.mk trivial
 case' n2_ =>
  rw [if_neg c2] at H; have c2b0 : decide (64 < (l0.length : Int)) = false := decide_eq_false c2; have c2b1 : decide (64 < l0.length) = false := decide_eq_false (by omega); clear c2; refine Or.elim (Classical.em ((l0.length : Int) = 0)) (fun c3 => ?p3_) (fun c3 => ?n3_)
  case' p3_ =>
   rw [if_pos c3] at H; have c3b0 : ((l0.length : Int) == 0) = true := beq_iff_eq.mpr c3; have c3b1 : ((l0.length : Int) != 0) = false := bne_eq_false_iff_eq.mpr c3; clear c3; have hm1_0 := Aside0.mk trivial
  case' n3_ =>
   rw [if_neg c3] at H; have c3b0 : ((l0.length : Int) == 0) = false := beq_eq_false_iff_ne.mpr c3; have c3b1 : ((l0.length : Int) != 0) = true := bne_iff_ne.mpr c3
   have c3b2 : ¬ (l0 = []) := fun h_ => c3 (by rw [h_]; rfl)
   have hm1_1 := Aside0.mk trivial
 all_goals
  first
   | clear hm1_0; obtain rfl := Option.some.inj H; go_enter Try.func70, Try.ntmps70; go_wp2
     repeat (go_quiet (fail); try go_wp2)
     go_ret
     exact ⟨by first | rfl | (simp [errW_none, errW_some] <;> rfl) | (simp [*, errW_none, errW_some] <;> rfl), by repeat (first | (with_reducible first | exact HB.out | apply below_alloc | apply pw_below_drewN | apply below_drew1) | exact HB.out)⟩
   | clear hm1_1; have H' := Aside0.mk H; clear H; go_enter Try.func70, Try.ntmps70; go_wp2
     repeat (go_quiet (fail); try go_wp2)
     go_loopg [16] k (fun kq v16 w' => ∃ (x16_1 : Int), v16 = .int .i64 x16_1 ∧ Aside0 (tube_Check.l0 kq l0 l0 (l0.length : Int) x16_1 = some r) ∧ Aside0 (kq ≤ k) ∧ Aside0 (Below w.heap.size w w'))
     case atStart => exact ⟨(0), (by first | rfl | (simp; done) | (simp [*]; done)), H', ⟨Nat.le_refl _⟩, ⟨by repeat (first | (with_reducible first | exact HB.out | apply below_alloc | apply pw_below_drewN | apply below_drew1) | exact HB.out)⟩⟩
     case round =>
      clear H'
      (try clear c2); (try clear c2b0); (try clear c2b1); (try clear p2); (try clear c3); (try clear c3b0); (try clear c3b1); (try clear c3b2)
      obtain ⟨x16_1, rfl, HA, HK1, HB⟩ := hrel
      cases gk with
      | zero => exact absurd HA.out (by simp [tube_Check.l0])
      | succ k1 =>
       have H := HA.out; clear HA; simp only [tube_Check.l0] at H
       by_cases c4 : x16_1 < (l0.length : Int)
       · rw [if_pos c4] at H; have c4b0 : decide (x16_1 < (l0.length : Int)) = true := decide_eq_true c4; clear c4
         by_cases c5 : 0 ≤ x16_1
         · rw [if_pos c5] at H; have c5b0 : decide (0 ≤ x16_1) = true := decide_eq_true c5; clear c5
           by_cases c6 : x16_1 < (l0.length : Int)
           · rw [if_pos c6] at H; have c6b0 : decide (x16_1 < (l0.length : Int)) = true := decide_eq_true c6; clear c6; have HC7 := Aside0.mk H; clear H
             have p103 : 0 ≤ (x16_1 : Int) := of_decide_eq_true (by first | (with_reducible assumption) | assumption)
             have q103 : x16_1 < (l0.length : Int) := of_decide_eq_true (by first | (with_reducible assumption) | assumption)
             obtain ⟨ad103, e103, hx103_0, hx103_1, hx103_2, hx103_3, hx103_4, hx103_5⟩ := at_T95 HR0.out x16_1 p103 q103; cases e103; replace hx103_0 := cl HB hx103_0; replace hx103_1 := cl HB hx103_1; replace hx103_2 := cl HB hx103_2; replace hx103_3 := cl HB hx103_3; replace hx103_4 := cl HB hx103_4; replace hx103_5 := cl HB hx103_5; replace p103 := eq_true p103; replace q103 := eq_true q103
             go_upto_region 8 with (first | ((with_reducible refine gate_dst (N := 4) rfl ?_); refine box_s #[.int .i64 0, .int .i64 0, .int .i64 0, .int .i64 0, .int .i64 0, .int .i64 0] 95 ?_; intro gb104 hg wx3d531 hbox hb; have n0_ := st HB hb; have n1_ := Aside0.mk (hbox); have n2_ := ge HB hg; have n3_ := ge HB hg; clear HB; have HB := n0_; have BK104 := n1_; have GW104 := n2_; have GE104 := n3_; clear n0_ n1_ n2_ n3_; clear hb hbox hg; have hczx3d531 : wx3d531.cell? ⟨gb104, 0, none⟩ = some (.int .i64 0) := bc BK104 0; have hczx3d532 : wx3d531.cell? ⟨gb104, 1, none⟩ = some (.int .i64 0) := bc BK104 1; have hczx3d533 : wx3d531.cell? ⟨gb104, 2, none⟩ = some (.int .i64 0) := bc BK104 2; have hczx3d534 : wx3d531.cell? ⟨gb104, 3, none⟩ = some (.int .i64 0) := bc BK104 3; have hczx3d535 : wx3d531.cell? ⟨gb104, 4, none⟩ = some (.int .i64 0) := bc BK104 4; have hczx3d536 : wx3d531.cell? ⟨gb104, 5, none⟩ = some (.int .i64 0) := bc BK104 5; have hfzx3d531 := blk_frozen BK104.out 0; have hfzx3d532 := blk_frozen BK104.out 1; have hfzx3d533 := blk_frozen BK104.out 2; have hfzx3d534 := blk_frozen BK104.out 3; have hfzx3d535 := blk_frozen BK104.out 4; have hfzx3d536 := blk_frozen BK104.out 5))
             repeat (go_quiet (first | ((with_reducible refine gate_dst (N := 4) rfl ?_); refine box_s #[.int .i64 0, .int .i64 0, .int .i64 0, .int .i64 0, .int .i64 0, .int .i64 0] 95 ?_; intro gb104 hg wx3d531 hbox hb; have n0_ := st HB hb; have n1_ := Aside0.mk (hbox); have n2_ := ge HB hg; have n3_ := ge HB hg; clear HB; have HB := n0_; have BK104 := n1_; have GW104 := n2_; have GE104 := n3_; clear n0_ n1_ n2_ n3_; clear hb hbox hg; have hczx3d531 : wx3d531.cell? ⟨gb104, 0, none⟩ = some (.int .i64 0) := bc BK104 0; have hczx3d532 : wx3d531.cell? ⟨gb104, 1, none⟩ = some (.int .i64 0) := bc BK104 1; have hczx3d533 : wx3d531.cell? ⟨gb104, 2, none⟩ = some (.int .i64 0) := bc BK104 2; have hczx3d534 : wx3d531.cell? ⟨gb104, 3, none⟩ = some (.int .i64 0) := bc BK104 3; have hczx3d535 : wx3d531.cell? ⟨gb104, 4, none⟩ = some (.int .i64 0) := bc BK104 4; have hczx3d536 : wx3d531.cell? ⟨gb104, 5, none⟩ = some (.int .i64 0) := bc BK104 5; have hfzx3d531 := blk_frozen BK104.out 0; have hfzx3d532 := blk_frozen BK104.out 1; have hfzx3d533 := blk_frozen BK104.out 2; have hfzx3d534 := blk_frozen BK104.out 3; have hfzx3d535 := blk_frozen BK104.out 4; have hfzx3d536 := blk_frozen BK104.out 5)); go_upto_region 8 with (first | ((with_reducible refine gate_dst (N := 4) rfl ?_); refine box_s #[.int .i64 0, .int .i64 0, .int .i64 0, .int .i64 0, .int .i64 0, .int .i64 0] 95 ?_; intro gb104 hg wx3d531 hbox hb; have n0_ := st HB hb; have n1_ := Aside0.mk (hbox); have n2_ := ge HB hg; have n3_ := ge HB hg; clear HB; have HB := n0_; have BK104 := n1_; have GW104 := n2_; have GE104 := n3_; clear n0_ n1_ n2_ n3_; clear hb hbox hg; have hczx3d531 : wx3d531.cell? ⟨gb104, 0, none⟩ = some (.int .i64 0) := bc BK104 0; have hczx3d532 : wx3d531.cell? ⟨gb104, 1, none⟩ = some (.int .i64 0) := bc BK104 1; have hczx3d533 : wx3d531.cell? ⟨gb104, 2, none⟩ = some (.int .i64 0) := bc BK104 2; have hczx3d534 : wx3d531.cell? ⟨gb104, 3, none⟩ = some (.int .i64 0) := bc BK104 3; have hczx3d535 : wx3d531.cell? ⟨gb104, 4, none⟩ = some (.int .i64 0) := bc BK104 4; have hczx3d536 : wx3d531.cell? ⟨gb104, 5, none⟩ = some (.int .i64 0) := bc BK104 5; have hfzx3d531 := blk_frozen BK104.out 0; have hfzx3d532 := blk_frozen BK104.out 1; have hfzx3d533 := blk_frozen BK104.out 2; have hfzx3d534 := blk_frozen BK104.out 3; have hfzx3d535 := blk_frozen BK104.out 4; have hfzx3d536 := blk_frozen BK104.out 5)))
             (try simp only [Act.put, List.setIfInBounds_toArray, List.set_cons_zero, List.set_cons_succ])
             go_cut [47] (fun v47 wc => ∃ (kq : Nat) (x47_6 : Bool), v47 = .bool x47_6 ∧ Aside0 (tube_Check.j1 kq l0 l0 (l0.length : Int) x16_1 x47_6 ((rd_T95 l0 x16_1).f0.f0) ((rd_T95 l0 x16_1).f0.f1.f0) ((rd_T95 l0 x16_1).f0.f1.f1) ((rd_T95 l0 x16_1).f0.f2) ((rd_T95 l0 x16_1).f1) ((rd_T95 l0 x16_1).f2) = some r) ∧ Aside0 (kq ≤ k1) ∧ Aside0 (wc.heap[gb104]? = some (.cells #[.int .i64 ((rd_T95 l0 x16_1).f0.f0), .int .i64 ((rd_T95 l0 x16_1).f0.f1.f0), .int .i64 ((rd_T95 l0 x16_1).f0.f1.f1), .int .i64 ((rd_T95 l0 x16_1).f0.f2), .int .i64 ((rd_T95 l0 x16_1).f1), .int .i64 ((rd_T95 l0 x16_1).f2)] 95 (0, 0))) ∧ Aside0 (Below w.heap.size w wc))
             case first =>
              have H := HC7.out; clear HC7; refine Or.elim (Classical.em (((rd_T95 l0 x16_1).f0.f0) < 0)) (fun c10 => ?p5_) (fun c10 => ?n5_)
              case' p5_ =>
               rw [if_pos c10] at H; have c10b0 : decide (((rd_T95 l0 x16_1).f0.f0) < 0) = true := decide_eq_true c10; clear c10
               (first | rw [c10b0] | (simp only [i64_w, i32_w]; rw [c10b0]) | skip)
               have hm4_0 := Aside0.mk trivial
              case' n5_ =>
               rw [if_neg c10] at H; have c10b0 : decide (((rd_T95 l0 x16_1).f0.f0) < 0) = false := decide_eq_false c10; clear c10
               (first | rw [c10b0] | (simp only [i64_w, i32_w]; rw [c10b0]) | skip)
               refine Or.elim (Classical.em (((rd_T95 l0 x16_1).f0.f0) > 200000)) (fun c12 => ?p6_) (fun c12 => ?n6_)
               case' p6_ =>
                rw [if_pos c12] at H; have c12b0 : decide (200000 < ((rd_T95 l0 x16_1).f0.f0)) = true := decide_eq_true c12; clear c12; have hm4_0 := Aside0.mk trivial
               case' n6_ =>
                rw [if_neg c12] at H; have c12b0 : decide (200000 < ((rd_T95 l0 x16_1).f0.f0)) = false := decide_eq_false c12; clear c12; refine Or.elim (Classical.em (x16_1 > 0)) (fun c14 => ?p7_) (fun c14 => ?n7_)
                case' p7_ =>
                 rw [if_pos c14] at H; have c14b0 : decide (0 < x16_1) = true := decide_eq_true c14; clear c14; obtain ⟨ji15, hji15⟩ : ∃ j_ : Int, (wrap64 (x16_1 - 1)) = j_ := ⟨_, rfl⟩
                 replace H : (if 0 ≤ (ji15) then (if (ji15) < (l0.length : Int) then (tube_Check.j1 k1 l0 l0 (l0.length : Int) x16_1 (decide (((rd_T95 l0 x16_1).f0.f0) ≤ ((rd_T95 l0 (ji15)).f0.f0))) ((rd_T95 l0 x16_1).f0.f0) ((rd_T95 l0 x16_1).f0.f1.f0) ((rd_T95 l0 x16_1).f0.f1.f1) ((rd_T95 l0 x16_1).f0.f2) ((rd_T95 l0 x16_1).f1) ((rd_T95 l0 x16_1).f2)) else (none)) else (none)) = some r := by first | (rw [hji15] at H; exact H) | (simp only [hji15] at H ⊢; exact H)
                 have hji15w : (IntKind.i64.wrap (x16_1 - 1)) = ji15 := (i64_w _).trans hji15; refine Or.elim (Classical.em (0 ≤ (ji15))) (fun c16 => ?p8_) (fun c16 => ?n8_)
                 case' p8_ =>
                  rw [if_pos c16] at H; have c16b0 : decide (0 ≤ (ji15)) = true := decide_eq_true c16; clear c16; refine Or.elim (Classical.em ((ji15) < (l0.length : Int))) (fun c17 => ?p9_) (fun c17 => ?n9_)
                  case' p9_ =>
                   rw [if_pos c17] at H; have c17b0 : decide ((ji15) < (l0.length : Int)) = true := decide_eq_true c17; clear c17; have hm4_1 := Aside0.mk trivial
                  case' n9_ =>
                   rw [if_neg c17] at H; exact absurd H (by simp)
                 case' n8_ =>
                  rw [if_neg c16] at H; exact absurd H (by simp)
                case' n7_ =>
                 rw [if_neg c14] at H; have c14b0 : decide (0 < x16_1) = false := decide_eq_false c14; clear c14; have hm4_0 := Aside0.mk trivial
              all_goals
               have H' := Aside0.mk H; clear H; have hczzd1 : wx3d531.cell? ⟨gb104, 0, none⟩ = some (.int .i64 0) := bc BK104 0; have hczzd2 : wx3d531.cell? ⟨gb104, 1, none⟩ = some (.int .i64 0) := bc BK104 1; have hczzd3 : wx3d531.cell? ⟨gb104, 2, none⟩ = some (.int .i64 0) := bc BK104 2; have hczzd4 : wx3d531.cell? ⟨gb104, 3, none⟩ = some (.int .i64 0) := bc BK104 3; have hczzd5 : wx3d531.cell? ⟨gb104, 4, none⟩ = some (.int .i64 0) := bc BK104 4; have hczzd6 : wx3d531.cell? ⟨gb104, 5, none⟩ = some (.int .i64 0) := bc BK104 5; have hfzzd1 := blk_frozen BK104.out 0; have hfzzd2 := blk_frozen BK104.out 1; have hfzzd3 := blk_frozen BK104.out 2; have hfzzd4 := blk_frozen BK104.out 3; have hfzzd5 := blk_frozen BK104.out 4; have hfzzd6 := blk_frozen BK104.out 5
               first
                | clear hm4_0; go_wp2
                  repeat (go_quiet (fail); try go_wp2)
                  go_meet
                  case rel => first | (exact ⟨_, (true), (by first | rfl | (simp; done) | (simp [*]; done)), H', ⟨by have := HK1.out; first | omega | exact Nat.le_refl _⟩, ⟨by (with_reducible repeat (first | refine blk_drewN ?_ _ | refine blk_drew ?_ | refine blk_alloc ?_ _)); refine blk_put (cs := #[.int .i64 ((rd_T95 l0 x16_1).f0.f0), .int .i64 ((rd_T95 l0 x16_1).f0.f1.f0), .int .i64 ((rd_T95 l0 x16_1).f0.f1.f1), .int .i64 ((rd_T95 l0 x16_1).f0.f2), .int .i64 ((rd_T95 l0 x16_1).f1), .int .i64 0]) ?_ 5 _ rfl; (with_reducible repeat (first | refine blk_drewN ?_ _ | refine blk_drew ?_ | refine blk_alloc ?_ _)); refine blk_put (cs := #[.int .i64 ((rd_T95 l0 x16_1).f0.f0), .int .i64 ((rd_T95 l0 x16_1).f0.f1.f0), .int .i64 ((rd_T95 l0 x16_1).f0.f1.f1), .int .i64 ((rd_T95 l0 x16_1).f0.f2), .int .i64 0, .int .i64 0]) ?_ 4 _ rfl; (with_reducible repeat (first | refine blk_drewN ?_ _ | refine blk_drew ?_ | refine blk_alloc ?_ _)); refine blk_put (cs := #[.int .i64 ((rd_T95 l0 x16_1).f0.f0), .int .i64 ((rd_T95 l0 x16_1).f0.f1.f0), .int .i64 ((rd_T95 l0 x16_1).f0.f1.f1), .int .i64 0, .int .i64 0, .int .i64 0]) ?_ 3 _ rfl; (with_reducible repeat (first | refine blk_drewN ?_ _ | refine blk_drew ?_ | refine blk_alloc ?_ _)); refine blk_put (cs := #[.int .i64 ((rd_T95 l0 x16_1).f0.f0), .int .i64 ((rd_T95 l0 x16_1).f0.f1.f0), .int .i64 0, .int .i64 0, .int .i64 0, .int .i64 0]) ?_ 2 _ rfl; (with_reducible repeat (first | refine blk_drewN ?_ _ | refine blk_drew ?_ | refine blk_alloc ?_ _)); refine blk_put (cs := #[.int .i64 ((rd_T95 l0 x16_1).f0.f0), .int .i64 0, .int .i64 0, .int .i64 0, .int .i64 0, .int .i64 0]) ?_ 1 _ rfl; (with_reducible repeat (first | refine blk_drewN ?_ _ | refine blk_drew ?_ | refine blk_alloc ?_ _)); refine blk_put (cs := #[.int .i64 0, .int .i64 0, .int .i64 0, .int .i64 0, .int .i64 0, .int .i64 0]) ?_ 0 _ rfl; (with_reducible repeat (first | refine blk_drewN ?_ _ | refine blk_drew ?_ | refine blk_alloc ?_ _)); exact BK104.out⟩, ⟨by repeat (first | (with_reducible first | exact HB.out | apply below_alloc | apply pw_below_drewN | apply below_drew1 | refine below_set ?_ GE104.out) | exact HB.out)⟩⟩) | (exact ⟨_, (false), (by first | rfl | (simp; done) | (simp [*]; done)), H', ⟨by have := HK1.out; first | omega | exact Nat.le_refl _⟩, ⟨by (with_reducible repeat (first | refine blk_drewN ?_ _ | refine blk_drew ?_ | refine blk_alloc ?_ _)); refine blk_put (cs := #[.int .i64 ((rd_T95 l0 x16_1).f0.f0), .int .i64 ((rd_T95 l0 x16_1).f0.f1.f0), .int .i64 ((rd_T95 l0 x16_1).f0.f1.f1), .int .i64 ((rd_T95 l0 x16_1).f0.f2), .int .i64 ((rd_T95 l0 x16_1).f1), .int .i64 0]) ?_ 5 _ rfl; (with_reducible repeat (first | refine blk_drewN ?_ _ | refine blk_drew ?_ | refine blk_alloc ?_ _)); refine blk_put (cs := #[.int .i64 ((rd_T95 l0 x16_1).f0.f0), .int .i64 ((rd_T95 l0 x16_1).f0.f1.f0), .int .i64 ((rd_T95 l0 x16_1).f0.f1.f1), .int .i64 ((rd_T95 l0 x16_1).f0.f2), .int .i64 0, .int .i64 0]) ?_ 4 _ rfl; (with_reducible repeat (first | refine blk_drewN ?_ _ | refine blk_drew ?_ | refine blk_alloc ?_ _)); refine blk_put (cs := #[.int .i64 ((rd_T95 l0 x16_1).f0.f0), .int .i64 ((rd_T95 l0 x16_1).f0.f1.f0), .int .i64 ((rd_T95 l0 x16_1).f0.f1.f1), .int .i64 0, .int .i64 0, .int .i64 0]) ?_ 3 _ rfl; (with_reducible repeat (first | refine blk_drewN ?_ _ | refine blk_drew ?_ | refine blk_alloc ?_ _)); refine blk_put (cs := #[.int .i64 ((rd_T95 l0 x16_1).f0.f0), .int .i64 ((rd_T95 l0 x16_1).f0.f1.f0), .int .i64 0, .int .i64 0, .int .i64 0, .int .i64 0]) ?_ 2 _ rfl; (with_reducible repeat (first | refine blk_drewN ?_ _ | refine blk_drew ?_ | refine blk_alloc ?_ _)); refine blk_put (cs := #[.int .i64 ((rd_T95 l0 x16_1).f0.f0), .int .i64 0, .int .i64 0, .int .i64 0, .int .i64 0, .int .i64 0]) ?_ 1 _ rfl; (with_reducible repeat (first | refine blk_drewN ?_ _ | refine blk_drew ?_ | refine blk_alloc ?_ _)); refine blk_put (cs := #[.int .i64 0, .int .i64 0, .int .i64 0, .int .i64 0, .int .i64 0, .int .i64 0]) ?_ 0 _ rfl; (with_reducible repeat (first | refine blk_drewN ?_ _ | refine blk_drew ?_ | refine blk_alloc ?_ _)); exact BK104.out⟩, ⟨by repeat (first | (with_reducible first | exact HB.out | apply below_alloc | apply pw_below_drewN | apply below_drew1 | refine below_set ?_ GE104.out) | exact HB.out)⟩⟩)
                | clear hm4_1
                  have p105 : 0 ≤ ((ji15) : Int) := of_decide_eq_true (by first | (with_reducible assumption) | assumption)
                  have q105 : (ji15) < (l0.length : Int) := of_decide_eq_true (by first | (with_reducible assumption) | assumption)
                  obtain ⟨ad105, e105, hx105_0, hx105_1, hx105_2, hx105_3, hx105_4, hx105_5⟩ := at_T95 HR0.out (ji15) p105 q105; obtain rfl : ad103 = ad105 := (by injection e105); have hn105_0 : ad103.block ≠ gb104 := Nat.ne_of_lt (Nat.lt_of_lt_of_le (by have := World.block_lt_of_cell? _ _ hx105_0; first | rwa [add_block] at this | exact this) GW104.out); have hn105_1 : ad103.block ≠ gb104 := Nat.ne_of_lt (Nat.lt_of_lt_of_le (by have := World.block_lt_of_cell? _ _ hx105_0; first | rwa [add_block] at this | exact this) GW104.out); have hn105_2 : ad103.block ≠ gb104 := Nat.ne_of_lt (Nat.lt_of_lt_of_le (by have := World.block_lt_of_cell? _ _ hx105_0; first | rwa [add_block] at this | exact this) GW104.out); have hn105_3 : ad103.block ≠ gb104 := Nat.ne_of_lt (Nat.lt_of_lt_of_le (by have := World.block_lt_of_cell? _ _ hx105_0; first | rwa [add_block] at this | exact this) GW104.out); have hn105_4 : ad103.block ≠ gb104 := Nat.ne_of_lt (Nat.lt_of_lt_of_le (by have := World.block_lt_of_cell? _ _ hx105_0; first | rwa [add_block] at this | exact this) GW104.out); have hn105_5 : ad103.block ≠ gb104 := Nat.ne_of_lt (Nat.lt_of_lt_of_le (by have := World.block_lt_of_cell? _ _ hx105_0; first | rwa [add_block] at this | exact this) GW104.out); replace hx105_0 := cl HB hx105_0; replace hx105_1 := cl HB hx105_1; replace hx105_2 := cl HB hx105_2; replace hx105_3 := cl HB hx105_3; replace hx105_4 := cl HB hx105_4; replace hx105_5 := cl HB hx105_5
                  (try have hb105_0 := fun (n_ : Nat) => (show (wx3d531.drewN n_).cell? _ = some _ from hx105_0))
                  replace hx105_0 := (cell_far (p := ⟨gb104, 0, none⟩) (by first | (rw [add_block]; exact hn105_0) | (show (Addr.add _ _).block ≠ _; rw [add_block]; exact hn105_0) | exact hn105_0) (.int .i64 ((rd_T95 l0 x16_1).f0.f0))).trans hx105_0
                  (try replace hb105_0 := fun (n_ : Nat) => ((cell_far (p := ⟨gb104, 0, none⟩) (by first | (rw [add_block]; exact hn105_0) | (show (Addr.add _ _).block ≠ _; rw [add_block]; exact hn105_0) | exact hn105_0) (.int .i64 ((rd_T95 l0 x16_1).f0.f0)))).trans (hb105_0 n_))
                  (try have hb105_1 := fun (n_ : Nat) => (show (wx3d531.drewN n_).cell? _ = some _ from hx105_1))
                  replace hx105_1 := (cell_far (p := ⟨gb104, 0, none⟩) (by first | (rw [add_block]; exact hn105_0) | (show (Addr.add _ _).block ≠ _; rw [add_block]; exact hn105_0) | exact hn105_0) (.int .i64 ((rd_T95 l0 x16_1).f0.f0))).trans hx105_1
                  (try replace hb105_1 := fun (n_ : Nat) => ((cell_far (p := ⟨gb104, 0, none⟩) (by first | (rw [add_block]; exact hn105_0) | (show (Addr.add _ _).block ≠ _; rw [add_block]; exact hn105_0) | exact hn105_0) (.int .i64 ((rd_T95 l0 x16_1).f0.f0)))).trans (hb105_1 n_))
                  (try have hb105_2 := fun (n_ : Nat) => (show (wx3d531.drewN n_).cell? _ = some _ from hx105_2))
                  replace hx105_2 := (cell_far (p := ⟨gb104, 0, none⟩) (by first | (rw [add_block]; exact hn105_0) | (show (Addr.add _ _).block ≠ _; rw [add_block]; exact hn105_0) | exact hn105_0) (.int .i64 ((rd_T95 l0 x16_1).f0.f0))).trans hx105_2
                  (try replace hb105_2 := fun (n_ : Nat) => ((cell_far (p := ⟨gb104, 0, none⟩) (by first | (rw [add_block]; exact hn105_0) | (show (Addr.add _ _).block ≠ _; rw [add_block]; exact hn105_0) | exact hn105_0) (.int .i64 ((rd_T95 l0 x16_1).f0.f0)))).trans (hb105_2 n_))
                  (try have hb105_3 := fun (n_ : Nat) => (show (wx3d531.drewN n_).cell? _ = some _ from hx105_3))
                  replace hx105_3 := (cell_far (p := ⟨gb104, 0, none⟩) (by first | (rw [add_block]; exact hn105_0) | (show (Addr.add _ _).block ≠ _; rw [add_block]; exact hn105_0) | exact hn105_0) (.int .i64 ((rd_T95 l0 x16_1).f0.f0))).trans hx105_3
                  (try replace hb105_3 := fun (n_ : Nat) => ((cell_far (p := ⟨gb104, 0, none⟩) (by first | (rw [add_block]; exact hn105_0) | (show (Addr.add _ _).block ≠ _; rw [add_block]; exact hn105_0) | exact hn105_0) (.int .i64 ((rd_T95 l0 x16_1).f0.f0)))).trans (hb105_3 n_))
                  (try have hb105_4 := fun (n_ : Nat) => (show (wx3d531.drewN n_).cell? _ = some _ from hx105_4))
                  replace hx105_4 := (cell_far (p := ⟨gb104, 0, none⟩) (by first | (rw [add_block]; exact hn105_0) | (show (Addr.add _ _).block ≠ _; rw [add_block]; exact hn105_0) | exact hn105_0) (.int .i64 ((rd_T95 l0 x16_1).f0.f0))).trans hx105_4
                  (try replace hb105_4 := fun (n_ : Nat) => ((cell_far (p := ⟨gb104, 0, none⟩) (by first | (rw [add_block]; exact hn105_0) | (show (Addr.add _ _).block ≠ _; rw [add_block]; exact hn105_0) | exact hn105_0) (.int .i64 ((rd_T95 l0 x16_1).f0.f0)))).trans (hb105_4 n_))
                  (try have hb105_5 := fun (n_ : Nat) => (show (wx3d531.drewN n_).cell? _ = some _ from hx105_5))
                  replace hx105_5 := (cell_far (p := ⟨gb104, 0, none⟩) (by first | (rw [add_block]; exact hn105_0) | (show (Addr.add _ _).block ≠ _; rw [add_block]; exact hn105_0) | exact hn105_0) (.int .i64 ((rd_T95 l0 x16_1).f0.f0))).trans hx105_5
                  (try replace hb105_5 := fun (n_ : Nat) => ((cell_far (p := ⟨gb104, 0, none⟩) (by first | (rw [add_block]; exact hn105_0) | (show (Addr.add _ _).block ≠ _; rw [add_block]; exact hn105_0) | exact hn105_0) (.int .i64 ((rd_T95 l0 x16_1).f0.f0)))).trans (hb105_5 n_))
                  replace hx105_0 := (cell_far (p := ⟨gb104, 1, none⟩) (by first | (rw [add_block]; exact hn105_1) | (show (Addr.add _ _).block ≠ _; rw [add_block]; exact hn105_1) | exact hn105_1) (.int .i64 ((rd_T95 l0 x16_1).f0.f1.f0))).trans hx105_0
                  (try replace hb105_0 := fun (n_ : Nat) => ((cell_far (p := ⟨gb104, 1, none⟩) (by first | (rw [add_block]; exact hn105_1) | (show (Addr.add _ _).block ≠ _; rw [add_block]; exact hn105_1) | exact hn105_1) (.int .i64 ((rd_T95 l0 x16_1).f0.f1.f0)))).trans (hb105_0 n_))
                  replace hx105_1 := (cell_far (p := ⟨gb104, 1, none⟩) (by first | (rw [add_block]; exact hn105_1) | (show (Addr.add _ _).block ≠ _; rw [add_block]; exact hn105_1) | exact hn105_1) (.int .i64 ((rd_T95 l0 x16_1).f0.f1.f0))).trans hx105_1
                  (try replace hb105_1 := fun (n_ : Nat) => ((cell_far (p := ⟨gb104, 1, none⟩) (by first | (rw [add_block]; exact hn105_1) | (show (Addr.add _ _).block ≠ _; rw [add_block]; exact hn105_1) | exact hn105_1) (.int .i64 ((rd_T95 l0 x16_1).f0.f1.f0)))).trans (hb105_1 n_))
                  replace hx105_2 := (cell_far (p := ⟨gb104, 1, none⟩) (by first | (rw [add_block]; exact hn105_1) | (show (Addr.add _ _).block ≠ _; rw [add_block]; exact hn105_1) | exact hn105_1) (.int .i64 ((rd_T95 l0 x16_1).f0.f1.f0))).trans hx105_2
                  (try replace hb105_2 := fun (n_ : Nat) => ((cell_far (p := ⟨gb104, 1, none⟩) (by first | (rw [add_block]; exact hn105_1) | (show (Addr.add _ _).block ≠ _; rw [add_block]; exact hn105_1) | exact hn105_1) (.int .i64 ((rd_T95 l0 x16_1).f0.f1.f0)))).trans (hb105_2 n_))
                  replace hx105_3 := (cell_far (p := ⟨gb104, 1, none⟩) (by first | (rw [add_block]; exact hn105_1) | (show (Addr.add _ _).block ≠ _; rw [add_block]; exact hn105_1) | exact hn105_1) (.int .i64 ((rd_T95 l0 x16_1).f0.f1.f0))).trans hx105_3
                  (try replace hb105_3 := fun (n_ : Nat) => ((cell_far (p := ⟨gb104, 1, none⟩) (by first | (rw [add_block]; exact hn105_1) | (show (Addr.add _ _).block ≠ _; rw [add_block]; exact hn105_1) | exact hn105_1) (.int .i64 ((rd_T95 l0 x16_1).f0.f1.f0)))).trans (hb105_3 n_))
                  replace hx105_4 := (cell_far (p := ⟨gb104, 1, none⟩) (by first | (rw [add_block]; exact hn105_1) | (show (Addr.add _ _).block ≠ _; rw [add_block]; exact hn105_1) | exact hn105_1) (.int .i64 ((rd_T95 l0 x16_1).f0.f1.f0))).trans hx105_4
                  (try replace hb105_4 := fun (n_ : Nat) => ((cell_far (p := ⟨gb104, 1, none⟩) (by first | (rw [add_block]; exact hn105_1) | (show (Addr.add _ _).block ≠ _; rw [add_block]; exact hn105_1) | exact hn105_1) (.int .i64 ((rd_T95 l0 x16_1).f0.f1.f0)))).trans (hb105_4 n_))
                  replace hx105_5 := (cell_far (p := ⟨gb104, 1, none⟩) (by first | (rw [add_block]; exact hn105_1) | (show (Addr.add _ _).block ≠ _; rw [add_block]; exact hn105_1) | exact hn105_1) (.int .i64 ((rd_T95 l0 x16_1).f0.f1.f0))).trans hx105_5
                  (try replace hb105_5 := fun (n_ : Nat) => ((cell_far (p := ⟨gb104, 1, none⟩) (by first | (rw [add_block]; exact hn105_1) | (show (Addr.add _ _).block ≠ _; rw [add_block]; exact hn105_1) | exact hn105_1) (.int .i64 ((rd_T95 l0 x16_1).f0.f1.f0)))).trans (hb105_5 n_))
                  replace hx105_0 := (cell_far (p := ⟨gb104, 2, none⟩) (by first | (rw [add_block]; exact hn105_2) | (show (Addr.add _ _).block ≠ _; rw [add_block]; exact hn105_2) | exact hn105_2) (.int .i64 ((rd_T95 l0 x16_1).f0.f1.f1))).trans hx105_0
                  (try replace hb105_0 := fun (n_ : Nat) => ((cell_far (p := ⟨gb104, 2, none⟩) (by first | (rw [add_block]; exact hn105_2) | (show (Addr.add _ _).block ≠ _; rw [add_block]; exact hn105_2) | exact hn105_2) (.int .i64 ((rd_T95 l0 x16_1).f0.f1.f1)))).trans (hb105_0 n_))
                  replace hx105_1 := (cell_far (p := ⟨gb104, 2, none⟩) (by first | (rw [add_block]; exact hn105_2) | (show (Addr.add _ _).block ≠ _; rw [add_block]; exact hn105_2) | exact hn105_2) (.int .i64 ((rd_T95 l0 x16_1).f0.f1.f1))).trans hx105_1
                  (try replace hb105_1 := fun (n_ : Nat) => ((cell_far (p := ⟨gb104, 2, none⟩) (by first | (rw [add_block]; exact hn105_2) | (show (Addr.add _ _).block ≠ _; rw [add_block]; exact hn105_2) | exact hn105_2) (.int .i64 ((rd_T95 l0 x16_1).f0.f1.f1)))).trans (hb105_1 n_))
                  replace hx105_2 := (cell_far (p := ⟨gb104, 2, none⟩) (by first | (rw [add_block]; exact hn105_2) | (show (Addr.add _ _).block ≠ _; rw [add_block]; exact hn105_2) | exact hn105_2) (.int .i64 ((rd_T95 l0 x16_1).f0.f1.f1))).trans hx105_2
                  (try replace hb105_2 := fun (n_ : Nat) => ((cell_far (p := ⟨gb104, 2, none⟩) (by first | (rw [add_block]; exact hn105_2) | (show (Addr.add _ _).block ≠ _; rw [add_block]; exact hn105_2) | exact hn105_2) (.int .i64 ((rd_T95 l0 x16_1).f0.f1.f1)))).trans (hb105_2 n_))
                  replace hx105_3 := (cell_far (p := ⟨gb104, 2, none⟩) (by first | (rw [add_block]; exact hn105_2) | (show (Addr.add _ _).block ≠ _; rw [add_block]; exact hn105_2) | exact hn105_2) (.int .i64 ((rd_T95 l0 x16_1).f0.f1.f1))).trans hx105_3
                  (try replace hb105_3 := fun (n_ : Nat) => ((cell_far (p := ⟨gb104, 2, none⟩) (by first | (rw [add_block]; exact hn105_2) | (show (Addr.add _ _).block ≠ _; rw [add_block]; exact hn105_2) | exact hn105_2) (.int .i64 ((rd_T95 l0 x16_1).f0.f1.f1)))).trans (hb105_3 n_))
                  replace hx105_4 := (cell_far (p := ⟨gb104, 2, none⟩) (by first | (rw [add_block]; exact hn105_2) | (show (Addr.add _ _).block ≠ _; rw [add_block]; exact hn105_2) | exact hn105_2) (.int .i64 ((rd_T95 l0 x16_1).f0.f1.f1))).trans hx105_4
                  (try replace hb105_4 := fun (n_ : Nat) => ((cell_far (p := ⟨gb104, 2, none⟩) (by first | (rw [add_block]; exact hn105_2) | (show (Addr.add _ _).block ≠ _; rw [add_block]; exact hn105_2) | exact hn105_2) (.int .i64 ((rd_T95 l0 x16_1).f0.f1.f1)))).trans (hb105_4 n_))
                  replace hx105_5 := (cell_far (p := ⟨gb104, 2, none⟩) (by first | (rw [add_block]; exact hn105_2) | (show (Addr.add _ _).block ≠ _; rw [add_block]; exact hn105_2) | exact hn105_2) (.int .i64 ((rd_T95 l0 x16_1).f0.f1.f1))).trans hx105_5
                  (try replace hb105_5 := fun (n_ : Nat) => ((cell_far (p := ⟨gb104, 2, none⟩) (by first | (rw [add_block]; exact hn105_2) | (show (Addr.add _ _).block ≠ _; rw [add_block]; exact hn105_2) | exact hn105_2) (.int .i64 ((rd_T95 l0 x16_1).f0.f1.f1)))).trans (hb105_5 n_))
                  replace hx105_0 := (cell_far (p := ⟨gb104, 3, none⟩) (by first | (rw [add_block]; exact hn105_3) | (show (Addr.add _ _).block ≠ _; rw [add_block]; exact hn105_3) | exact hn105_3) (.int .i64 ((rd_T95 l0 x16_1).f0.f2))).trans hx105_0
                  (try replace hb105_0 := fun (n_ : Nat) => ((cell_far (p := ⟨gb104, 3, none⟩) (by first | (rw [add_block]; exact hn105_3) | (show (Addr.add _ _).block ≠ _; rw [add_block]; exact hn105_3) | exact hn105_3) (.int .i64 ((rd_T95 l0 x16_1).f0.f2)))).trans (hb105_0 n_))
                  replace hx105_1 := (cell_far (p := ⟨gb104, 3, none⟩) (by first | (rw [add_block]; exact hn105_3) | (show (Addr.add _ _).block ≠ _; rw [add_block]; exact hn105_3) | exact hn105_3) (.int .i64 ((rd_T95 l0 x16_1).f0.f2))).trans hx105_1
                  (try replace hb105_1 := fun (n_ : Nat) => ((cell_far (p := ⟨gb104, 3, none⟩) (by first | (rw [add_block]; exact hn105_3) | (show (Addr.add _ _).block ≠ _; rw [add_block]; exact hn105_3) | exact hn105_3) (.int .i64 ((rd_T95 l0 x16_1).f0.f2)))).trans (hb105_1 n_))
                  replace hx105_2 := (cell_far (p := ⟨gb104, 3, none⟩) (by first | (rw [add_block]; exact hn105_3) | (show (Addr.add _ _).block ≠ _; rw [add_block]; exact hn105_3) | exact hn105_3) (.int .i64 ((rd_T95 l0 x16_1).f0.f2))).trans hx105_2
                  (try replace hb105_2 := fun (n_ : Nat) => ((cell_far (p := ⟨gb104, 3, none⟩) (by first | (rw [add_block]; exact hn105_3) | (show (Addr.add _ _).block ≠ _; rw [add_block]; exact hn105_3) | exact hn105_3) (.int .i64 ((rd_T95 l0 x16_1).f0.f2)))).trans (hb105_2 n_))
                  replace hx105_3 := (cell_far (p := ⟨gb104, 3, none⟩) (by first | (rw [add_block]; exact hn105_3) | (show (Addr.add _ _).block ≠ _; rw [add_block]; exact hn105_3) | exact hn105_3) (.int .i64 ((rd_T95 l0 x16_1).f0.f2))).trans hx105_3
                  (try replace hb105_3 := fun (n_ : Nat) => ((cell_far (p := ⟨gb104, 3, none⟩) (by first | (rw [add_block]; exact hn105_3) | (show (Addr.add _ _).block ≠ _; rw [add_block]; exact hn105_3) | exact hn105_3) (.int .i64 ((rd_T95 l0 x16_1).f0.f2)))).trans (hb105_3 n_))
                  replace hx105_4 := (cell_far (p := ⟨gb104, 3, none⟩) (by first | (rw [add_block]; exact hn105_3) | (show (Addr.add _ _).block ≠ _; rw [add_block]; exact hn105_3) | exact hn105_3) (.int .i64 ((rd_T95 l0 x16_1).f0.f2))).trans hx105_4
                  (try replace hb105_4 := fun (n_ : Nat) => ((cell_far (p := ⟨gb104, 3, none⟩) (by first | (rw [add_block]; exact hn105_3) | (show (Addr.add _ _).block ≠ _; rw [add_block]; exact hn105_3) | exact hn105_3) (.int .i64 ((rd_T95 l0 x16_1).f0.f2)))).trans (hb105_4 n_))
                  replace hx105_5 := (cell_far (p := ⟨gb104, 3, none⟩) (by first | (rw [add_block]; exact hn105_3) | (show (Addr.add _ _).block ≠ _; rw [add_block]; exact hn105_3) | exact hn105_3) (.int .i64 ((rd_T95 l0 x16_1).f0.f2))).trans hx105_5
                  (try replace hb105_5 := fun (n_ : Nat) => ((cell_far (p := ⟨gb104, 3, none⟩) (by first | (rw [add_block]; exact hn105_3) | (show (Addr.add _ _).block ≠ _; rw [add_block]; exact hn105_3) | exact hn105_3) (.int .i64 ((rd_T95 l0 x16_1).f0.f2)))).trans (hb105_5 n_))
                  replace hx105_0 := (cell_far (p := ⟨gb104, 4, none⟩) (by first | (rw [add_block]; exact hn105_4) | (show (Addr.add _ _).block ≠ _; rw [add_block]; exact hn105_4) | exact hn105_4) (.int .i64 ((rd_T95 l0 x16_1).f1))).trans hx105_0
                  (try replace hb105_0 := fun (n_ : Nat) => ((cell_far (p := ⟨gb104, 4, none⟩) (by first | (rw [add_block]; exact hn105_4) | (show (Addr.add _ _).block ≠ _; rw [add_block]; exact hn105_4) | exact hn105_4) (.int .i64 ((rd_T95 l0 x16_1).f1)))).trans (hb105_0 n_))
                  replace hx105_1 := (cell_far (p := ⟨gb104, 4, none⟩) (by first | (rw [add_block]; exact hn105_4) | (show (Addr.add _ _).block ≠ _; rw [add_block]; exact hn105_4) | exact hn105_4) (.int .i64 ((rd_T95 l0 x16_1).f1))).trans hx105_1
                  (try replace hb105_1 := fun (n_ : Nat) => ((cell_far (p := ⟨gb104, 4, none⟩) (by first | (rw [add_block]; exact hn105_4) | (show (Addr.add _ _).block ≠ _; rw [add_block]; exact hn105_4) | exact hn105_4) (.int .i64 ((rd_T95 l0 x16_1).f1)))).trans (hb105_1 n_))
                  replace hx105_2 := (cell_far (p := ⟨gb104, 4, none⟩) (by first | (rw [add_block]; exact hn105_4) | (show (Addr.add _ _).block ≠ _; rw [add_block]; exact hn105_4) | exact hn105_4) (.int .i64 ((rd_T95 l0 x16_1).f1))).trans hx105_2
                  (try replace hb105_2 := fun (n_ : Nat) => ((cell_far (p := ⟨gb104, 4, none⟩) (by first | (rw [add_block]; exact hn105_4) | (show (Addr.add _ _).block ≠ _; rw [add_block]; exact hn105_4) | exact hn105_4) (.int .i64 ((rd_T95 l0 x16_1).f1)))).trans (hb105_2 n_))
                  replace hx105_3 := (cell_far (p := ⟨gb104, 4, none⟩) (by first | (rw [add_block]; exact hn105_4) | (show (Addr.add _ _).block ≠ _; rw [add_block]; exact hn105_4) | exact hn105_4) (.int .i64 ((rd_T95 l0 x16_1).f1))).trans hx105_3
                  (try replace hb105_3 := fun (n_ : Nat) => ((cell_far (p := ⟨gb104, 4, none⟩) (by first | (rw [add_block]; exact hn105_4) | (show (Addr.add _ _).block ≠ _; rw [add_block]; exact hn105_4) | exact hn105_4) (.int .i64 ((rd_T95 l0 x16_1).f1)))).trans (hb105_3 n_))
                  replace hx105_4 := (cell_far (p := ⟨gb104, 4, none⟩) (by first | (rw [add_block]; exact hn105_4) | (show (Addr.add _ _).block ≠ _; rw [add_block]; exact hn105_4) | exact hn105_4) (.int .i64 ((rd_T95 l0 x16_1).f1))).trans hx105_4
                  (try replace hb105_4 := fun (n_ : Nat) => ((cell_far (p := ⟨gb104, 4, none⟩) (by first | (rw [add_block]; exact hn105_4) | (show (Addr.add _ _).block ≠ _; rw [add_block]; exact hn105_4) | exact hn105_4) (.int .i64 ((rd_T95 l0 x16_1).f1)))).trans (hb105_4 n_))
                  replace hx105_5 := (cell_far (p := ⟨gb104, 4, none⟩) (by first | (rw [add_block]; exact hn105_4) | (show (Addr.add _ _).block ≠ _; rw [add_block]; exact hn105_4) | exact hn105_4) (.int .i64 ((rd_T95 l0 x16_1).f1))).trans hx105_5
                  (try replace hb105_5 := fun (n_ : Nat) => ((cell_far (p := ⟨gb104, 4, none⟩) (by first | (rw [add_block]; exact hn105_4) | (show (Addr.add _ _).block ≠ _; rw [add_block]; exact hn105_4) | exact hn105_4) (.int .i64 ((rd_T95 l0 x16_1).f1)))).trans (hb105_5 n_))
                  replace hx105_0 := (cell_far (p := ⟨gb104, 5, none⟩) (by first | (rw [add_block]; exact hn105_5) | (show (Addr.add _ _).block ≠ _; rw [add_block]; exact hn105_5) | exact hn105_5) (.int .i64 ((rd_T95 l0 x16_1).f2))).trans hx105_0
                  (try replace hb105_0 := fun (n_ : Nat) => ((cell_far (p := ⟨gb104, 5, none⟩) (by first | (rw [add_block]; exact hn105_5) | (show (Addr.add _ _).block ≠ _; rw [add_block]; exact hn105_5) | exact hn105_5) (.int .i64 ((rd_T95 l0 x16_1).f2)))).trans (hb105_0 n_))
                  replace hx105_1 := (cell_far (p := ⟨gb104, 5, none⟩) (by first | (rw [add_block]; exact hn105_5) | (show (Addr.add _ _).block ≠ _; rw [add_block]; exact hn105_5) | exact hn105_5) (.int .i64 ((rd_T95 l0 x16_1).f2))).trans hx105_1
                  (try replace hb105_1 := fun (n_ : Nat) => ((cell_far (p := ⟨gb104, 5, none⟩) (by first | (rw [add_block]; exact hn105_5) | (show (Addr.add _ _).block ≠ _; rw [add_block]; exact hn105_5) | exact hn105_5) (.int .i64 ((rd_T95 l0 x16_1).f2)))).trans (hb105_1 n_))
                  replace hx105_2 := (cell_far (p := ⟨gb104, 5, none⟩) (by first | (rw [add_block]; exact hn105_5) | (show (Addr.add _ _).block ≠ _; rw [add_block]; exact hn105_5) | exact hn105_5) (.int .i64 ((rd_T95 l0 x16_1).f2))).trans hx105_2
                  (try replace hb105_2 := fun (n_ : Nat) => ((cell_far (p := ⟨gb104, 5, none⟩) (by first | (rw [add_block]; exact hn105_5) | (show (Addr.add _ _).block ≠ _; rw [add_block]; exact hn105_5) | exact hn105_5) (.int .i64 ((rd_T95 l0 x16_1).f2)))).trans (hb105_2 n_))
                  replace hx105_3 := (cell_far (p := ⟨gb104, 5, none⟩) (by first | (rw [add_block]; exact hn105_5) | (show (Addr.add _ _).block ≠ _; rw [add_block]; exact hn105_5) | exact hn105_5) (.int .i64 ((rd_T95 l0 x16_1).f2))).trans hx105_3
                  (try replace hb105_3 := fun (n_ : Nat) => ((cell_far (p := ⟨gb104, 5, none⟩) (by first | (rw [add_block]; exact hn105_5) | (show (Addr.add _ _).block ≠ _; rw [add_block]; exact hn105_5) | exact hn105_5) (.int .i64 ((rd_T95 l0 x16_1).f2)))).trans (hb105_3 n_))
                  replace hx105_4 := (cell_far (p := ⟨gb104, 5, none⟩) (by first | (rw [add_block]; exact hn105_5) | (show (Addr.add _ _).block ≠ _; rw [add_block]; exact hn105_5) | exact hn105_5) (.int .i64 ((rd_T95 l0 x16_1).f2))).trans hx105_4
                  (try replace hb105_4 := fun (n_ : Nat) => ((cell_far (p := ⟨gb104, 5, none⟩) (by first | (rw [add_block]; exact hn105_5) | (show (Addr.add _ _).block ≠ _; rw [add_block]; exact hn105_5) | exact hn105_5) (.int .i64 ((rd_T95 l0 x16_1).f2)))).trans (hb105_4 n_))
                  replace hx105_5 := (cell_far (p := ⟨gb104, 5, none⟩) (by first | (rw [add_block]; exact hn105_5) | (show (Addr.add _ _).block ≠ _; rw [add_block]; exact hn105_5) | exact hn105_5) (.int .i64 ((rd_T95 l0 x16_1).f2))).trans hx105_5
                  (try replace hb105_5 := fun (n_ : Nat) => ((cell_far (p := ⟨gb104, 5, none⟩) (by first | (rw [add_block]; exact hn105_5) | (show (Addr.add _ _).block ≠ _; rw [add_block]; exact hn105_5) | exact hn105_5) (.int .i64 ((rd_T95 l0 x16_1).f2)))).trans (hb105_5 n_))
                  (try have hy105_0 := hb105_0)
                  (try clear hb105_0)
                  (try have hy105_1 := hb105_1)
                  (try clear hb105_1)
                  (try have hy105_2 := hb105_2)
                  (try clear hb105_2)
                  (try have hy105_3 := hb105_3)
                  (try clear hb105_3)
                  (try have hy105_4 := hb105_4)
                  (try clear hb105_4)
                  (try have hy105_5 := hb105_5)
                  (try clear hb105_5)
                  clear hn105_0; clear hn105_1; clear hn105_2; clear hn105_3; clear hn105_4; clear hn105_5; replace p105 := eq_true p105; replace q105 := eq_true q105; go_wp2
                  repeat (go_quiet (fail); try go_wp2)
                  go_meet
                  case rel => exact ⟨_, (decide (((rd_T95 l0 x16_1).f0.f0) ≤ ((rd_T95 l0 (ji15)).f0.f0))), (by first | rfl | (simp; done) | (simp only [← hji15] <;> (first | rfl | (simp; done))) | (simp [*]; done) | (refine congrArg Value.bool ?_; rw [Bool.eq_iff_iff]; simp only [beq_iff_eq, decide_eq_true_eq, List.length_take]; omega)), H', ⟨by have := HK1.out; first | omega | exact Nat.le_refl _⟩, ⟨by (with_reducible repeat (first | refine blk_drewN ?_ _ | refine blk_drew ?_ | refine blk_alloc ?_ _)); refine blk_put (cs := #[.int .i64 ((rd_T95 l0 x16_1).f0.f0), .int .i64 ((rd_T95 l0 x16_1).f0.f1.f0), .int .i64 ((rd_T95 l0 x16_1).f0.f1.f1), .int .i64 ((rd_T95 l0 x16_1).f0.f2), .int .i64 ((rd_T95 l0 x16_1).f1), .int .i64 0]) ?_ 5 _ rfl; (with_reducible repeat (first | refine blk_drewN ?_ _ | refine blk_drew ?_ | refine blk_alloc ?_ _)); refine blk_put (cs := #[.int .i64 ((rd_T95 l0 x16_1).f0.f0), .int .i64 ((rd_T95 l0 x16_1).f0.f1.f0), .int .i64 ((rd_T95 l0 x16_1).f0.f1.f1), .int .i64 ((rd_T95 l0 x16_1).f0.f2), .int .i64 0, .int .i64 0]) ?_ 4 _ rfl; (with_reducible repeat (first | refine blk_drewN ?_ _ | refine blk_drew ?_ | refine blk_alloc ?_ _)); refine blk_put (cs := #[.int .i64 ((rd_T95 l0 x16_1).f0.f0), .int .i64 ((rd_T95 l0 x16_1).f0.f1.f0), .int .i64 ((rd_T95 l0 x16_1).f0.f1.f1), .int .i64 0, .int .i64 0, .int .i64 0]) ?_ 3 _ rfl; (with_reducible repeat (first | refine blk_drewN ?_ _ | refine blk_drew ?_ | refine blk_alloc ?_ _)); refine blk_put (cs := #[.int .i64 ((rd_T95 l0 x16_1).f0.f0), .int .i64 ((rd_T95 l0 x16_1).f0.f1.f0), .int .i64 0, .int .i64 0, .int .i64 0, .int .i64 0]) ?_ 2 _ rfl; (with_reducible repeat (first | refine blk_drewN ?_ _ | refine blk_drew ?_ | refine blk_alloc ?_ _)); refine blk_put (cs := #[.int .i64 ((rd_T95 l0 x16_1).f0.f0), .int .i64 0, .int .i64 0, .int .i64 0, .int .i64 0, .int .i64 0]) ?_ 1 _ rfl; (with_reducible repeat (first | refine blk_drewN ?_ _ | refine blk_drew ?_ | refine blk_alloc ?_ _)); refine blk_put (cs := #[.int .i64 0, .int .i64 0, .int .i64 0, .int .i64 0, .int .i64 0, .int .i64 0]) ?_ 0 _ rfl; (with_reducible repeat (first | refine blk_drewN ?_ _ | refine blk_drew ?_ | refine blk_alloc ?_ _)); exact BK104.out⟩, ⟨by repeat (first | (with_reducible first | exact HB.out | apply below_alloc | apply pw_below_drewN | apply below_drew1 | refine below_set ?_ GE104.out) | exact HB.out)⟩⟩
             case rest =>
              clear HC7
              (try clear c1); (try clear p1); (try clear q1); (try clear hx1); (try clear c2); (try clear c2b0); (try clear c2b1); (try clear p2); (try clear c3); (try clear c3b0); (try clear c3b1); (try clear c3b2); (try clear c4); (try clear c4b0); (try clear c5); (try clear c5b0); (try clear c6); (try clear c6b0); (try clear p6); (try clear c7); (try clear c10); (try clear c10b0); (try clear p10); (try clear q10); (try clear hx10); (try clear c12); (try clear c12b0); (try clear c14); (try clear c14b0); (try clear c16); (try clear c16b0); (try clear c17); (try clear c17b0); (try clear hczzc1); (try clear hczzc2); (try clear hczzc3); (try clear hczzc4); (try clear hczzc5); (try clear hczzc6); (try clear hczzc7)
              (try clear hczzc8); (try clear hczzc9); (try clear hczzc10); (try clear hczzc11); (try clear hczzc12); (try clear hczzc13); (try clear hczzc14); (try clear hczzc15); (try clear hczzc16); (try clear hczzc17); (try clear hczzc18); (try clear hczzc19); (try clear hczzc20); (try clear hczzc21); (try clear hczzc22); (try clear hczzc23); (try clear hczzc24); (try clear hczx3d531); (try clear hczx3d532); (try clear hczx3d533); (try clear hczx3d534); (try clear hczx3d535); (try clear hczx3d536); (try clear hfzzc1); (try clear hfzzc2); (try clear hfzzc3); (try clear hfzzc4); (try clear hfzzc5); (try clear hfzzc6); (try clear hfzzc7); (try clear hfzzc8); (try clear hfzzc9); (try clear hfzzc10); (try clear hfzzc11); (try clear hfzzc12); (try clear hfzzc13); (try clear hfzzc14); (try clear hfzzc15); (try clear hfzzc16); (try clear hfzzc17)
              (try clear hfzzc18); (try clear hfzzc19); (try clear hfzzc20); (try clear hfzzc21); (try clear hfzzc22); (try clear hfzzc23); (try clear hfzzc24); (try clear hfzx3d531); (try clear hfzx3d532); (try clear hfzx3d533); (try clear hfzx3d534); (try clear hfzx3d535); (try clear hfzx3d536); (try clear hx103_0); (try clear hx103_1); (try clear hx103_2); (try clear hx103_3); (try clear hx103_4); (try clear hx103_5); (try clear hx105_0); (try clear hx105_1); (try clear hx105_2); (try clear hx105_3); (try clear hx105_4); (try clear hx105_5); (try clear p103); (try clear p105); (try clear p2); (try clear q103); (try clear q105)
              obtain ⟨kq, x47_6, rfl, HA, HJ6, BK104, HB⟩ := hcut
              cases kq with
              | zero => exact absurd HA.out (by simp [tube_Check.j1])
              | succ kj6 =>
               have H := HA.out; clear HA; simp only [tube_Check.j1] at H; refine Or.elim (Classical.em (x47_6 = true)) (fun c20 => ?p11_) (fun c20 => ?n11_)
               case' p11_ =>
                subst c20
                have H1 : (some 12) = some r := by rw [if_pos rfl] at H; exact H
                clear H; have H := H1; clear H1; have hm10_0 := Aside0.mk trivial
               case' n11_ =>
                replace c20 := Bool.eq_false_iff.mpr c20; subst c20
                have H1 : ((plane_Check.f ((rd_T95 l0 x16_1).f0.f1.f0) ((rd_T95 l0 x16_1).f0.f1.f1)).bind fun t106 => (if t106 = 0 then (if ((rd_T95 l0 x16_1).f0.f2) < 0 then (some 4) else (if ((rd_T95 l0 x16_1).f0.f2) > 60000 then (some 4) else (if ((rd_T95 l0 x16_1).f1) < 0 then (some 4) else (if ((rd_T95 l0 x16_1).f1) > 1000000 then (some 4) else (if ((rd_T95 l0 x16_1).f2) < 0 then (some 4) else (if ((rd_T95 l0 x16_1).f2) > 60000 then (some 4) else (tube_Check.l0 kj6 l0 l0 (l0.length : Int) (wrap64 (x16_1 + 1))))))))) else (some t106))) = some r := by rw [if_neg (show ¬ (false = true) by decide)] at H; exact H
                clear H; have H := H1; clear H1; replace H := Option.bind_eq_some_iff.mp H; obtain ⟨t106, A210, H⟩ := H; replace H : (if t106 = 0 then (if ((rd_T95 l0 x16_1).f0.f2) < 0 then (some 4) else (if ((rd_T95 l0 x16_1).f0.f2) > 60000 then (some 4) else (if ((rd_T95 l0 x16_1).f1) < 0 then (some 4) else (if ((rd_T95 l0 x16_1).f1) > 1000000 then (some 4) else (if ((rd_T95 l0 x16_1).f2) < 0 then (some 4) else (if ((rd_T95 l0 x16_1).f2) > 60000 then (some 4) else (tube_Check.l0 kj6 l0 l0 (l0.length : Int) (wrap64 (x16_1 + 1))))))))) else (some t106)) = some r := H; have A21 := Aside0.mk A210; clear A210; refine Or.elim (Classical.em (t106 = 0)) (fun c22 => ?p12_) (fun c22 => ?n12_)
                case' p12_ =>
                 rw [if_pos c22] at H; have c22b0 : (t106 == 0) = true := beq_iff_eq.mpr c22; have c22b1 : (t106 != 0) = false := bne_eq_false_iff_eq.mpr c22; clear c22; refine Or.elim (Classical.em (((rd_T95 l0 x16_1).f0.f2) < 0)) (fun c23 => ?p13_) (fun c23 => ?n13_)
                 case' p13_ =>
                  rw [if_pos c23] at H; have c23b0 : decide (((rd_T95 l0 x16_1).f0.f2) < 0) = true := decide_eq_true c23; clear c23; have hm10_1 := Aside0.mk trivial
                 case' n13_ =>
                  rw [if_neg c23] at H; have c23b0 : decide (((rd_T95 l0 x16_1).f0.f2) < 0) = false := decide_eq_false c23; clear c23; refine Or.elim (Classical.em (((rd_T95 l0 x16_1).f0.f2) > 60000)) (fun c27 => ?p14_) (fun c27 => ?n14_)
                  case' p14_ =>
                   rw [if_pos c27] at H; have c27b0 : decide (60000 < ((rd_T95 l0 x16_1).f0.f2)) = true := decide_eq_true c27; clear c27; have hm10_1 := Aside0.mk trivial
                  case' n14_ =>
                   rw [if_neg c27] at H; have c27b0 : decide (60000 < ((rd_T95 l0 x16_1).f0.f2)) = false := decide_eq_false c27; clear c27; refine Or.elim (Classical.em (((rd_T95 l0 x16_1).f1) < 0)) (fun c31 => ?p15_) (fun c31 => ?n15_)
                   case' p15_ =>
                    rw [if_pos c31] at H; have c31b0 : decide (((rd_T95 l0 x16_1).f1) < 0) = true := decide_eq_true c31; clear c31; have hm10_1 := Aside0.mk trivial
                   case' n15_ =>
                    rw [if_neg c31] at H; have c31b0 : decide (((rd_T95 l0 x16_1).f1) < 0) = false := decide_eq_false c31; clear c31; refine Or.elim (Classical.em (((rd_T95 l0 x16_1).f1) > 1000000)) (fun c35 => ?p16_) (fun c35 => ?n16_)
                    case' p16_ =>
                     rw [if_pos c35] at H; have c35b0 : decide (1000000 < ((rd_T95 l0 x16_1).f1)) = true := decide_eq_true c35; clear c35; have hm10_1 := Aside0.mk trivial
                    case' n16_ =>
                     rw [if_neg c35] at H; have c35b0 : decide (1000000 < ((rd_T95 l0 x16_1).f1)) = false := decide_eq_false c35; clear c35; refine Or.elim (Classical.em (((rd_T95 l0 x16_1).f2) < 0)) (fun c39 => ?p17_) (fun c39 => ?n17_)
                     case' p17_ =>
                      rw [if_pos c39] at H; have c39b0 : decide (((rd_T95 l0 x16_1).f2) < 0) = true := decide_eq_true c39; clear c39; have hm10_1 := Aside0.mk trivial
                     case' n17_ =>
                      rw [if_neg c39] at H; have c39b0 : decide (((rd_T95 l0 x16_1).f2) < 0) = false := decide_eq_false c39; clear c39; refine Or.elim (Classical.em (((rd_T95 l0 x16_1).f2) > 60000)) (fun c43 => ?p18_) (fun c43 => ?n18_)
                      case' p18_ =>
                       rw [if_pos c43] at H; have c43b0 : decide (60000 < ((rd_T95 l0 x16_1).f2)) = true := decide_eq_true c43; clear c43; have hm10_1 := Aside0.mk trivial
                      case' n18_ =>
                       rw [if_neg c43] at H; have c43b0 : decide (60000 < ((rd_T95 l0 x16_1).f2)) = false := decide_eq_false c43; clear c43; have hm10_2 := Aside0.mk trivial
                case' n12_ =>
                 rw [if_neg c22] at H; have c22b0 : (t106 == 0) = false := beq_eq_false_iff_ne.mpr c22; have c22b1 : (t106 != 0) = true := bne_iff_ne.mpr c22; have hm10_3 := Aside0.mk trivial
               all_goals
                first
                 | (first | (have _hm := hm10_0) | (have _hm := hm10_1) | (have _hm := hm10_3))
                   obtain rfl := Option.some.inj H
                   first
                    | clear hm10_0; go_wp2
                      repeat (go_quiet (fail); try go_wp2)
                      go_ret
                      exact ⟨by first | rfl | (simp [errW_none, errW_some] <;> rfl) | (simp [*, errW_none, errW_some] <;> rfl), by repeat (first | (with_reducible first | exact HB.out | apply below_alloc | apply pw_below_drewN | apply below_drew1 | refine below_set ?_ GE104.out) | exact HB.out)⟩
                    | (first | (have _hm := hm10_1) | (have _hm := hm10_3))
                      have hczze1 : wc.cell? ⟨gb104, 0, none⟩ = some (.int .i64 ((rd_T95 l0 x16_1).f0.f0)) := bc BK104 0; have hczze2 : wc.cell? ⟨gb104, 1, none⟩ = some (.int .i64 ((rd_T95 l0 x16_1).f0.f1.f0)) := bc BK104 1; have hczze3 : wc.cell? ⟨gb104, 2, none⟩ = some (.int .i64 ((rd_T95 l0 x16_1).f0.f1.f1)) := bc BK104 2; have hczze4 : wc.cell? ⟨gb104, 3, none⟩ = some (.int .i64 ((rd_T95 l0 x16_1).f0.f2)) := bc BK104 3; have hczze5 : wc.cell? ⟨gb104, 4, none⟩ = some (.int .i64 ((rd_T95 l0 x16_1).f1)) := bc BK104 4; have hczze6 : wc.cell? ⟨gb104, 5, none⟩ = some (.int .i64 ((rd_T95 l0 x16_1).f2)) := bc BK104 5; have hfzze1 := blk_frozen BK104.out 0; have hfzze2 := blk_frozen BK104.out 1; have hfzze3 := blk_frozen BK104.out 2; have hfzze4 := blk_frozen BK104.out 3; have hfzze5 := blk_frozen BK104.out 4; have hfzze6 := blk_frozen BK104.out 5
                      go_wp2_with (first | (go_at_call 37; (with_reducible refine (plane_Check.calls ((rd_T95 l0 x16_1).f0.f1.f0) ((rd_T95 l0 x16_1).f0.f1.f1) t106 _ A21.out).mono ?_); rintro e wxebd41 ⟨rfl, hb⟩; have n0_ := kp BK104 hb; have n1_ := st HB hb; clear BK104; clear HB; have BK104 := n0_; have HB := n1_; clear n0_ n1_; (try clear hb); (try clear hb2); (try clear hk); (try clear hi); have hczy275000 : wxebd41.cell? ⟨gb104, 0, none⟩ = some (.int .i64 ((rd_T95 l0 x16_1).f0.f0)) := bc BK104 0; have hczy275001 : wxebd41.cell? ⟨gb104, 1, none⟩ = some (.int .i64 ((rd_T95 l0 x16_1).f0.f1.f0)) := bc BK104 1; have hczy275002 : wxebd41.cell? ⟨gb104, 2, none⟩ = some (.int .i64 ((rd_T95 l0 x16_1).f0.f1.f1)) := bc BK104 2; have hczy275003 : wxebd41.cell? ⟨gb104, 3, none⟩ = some (.int .i64 ((rd_T95 l0 x16_1).f0.f2)) := bc BK104 3; have hczy275004 : wxebd41.cell? ⟨gb104, 4, none⟩ = some (.int .i64 ((rd_T95 l0 x16_1).f1)) := bc BK104 4; have hczy275005 : wxebd41.cell? ⟨gb104, 5, none⟩ = some (.int .i64 ((rd_T95 l0 x16_1).f2)) := bc BK104 5; have hfzy275006 := blk_frozen BK104.out 0; have hfzy275007 := blk_frozen BK104.out 1; have hfzy275008 := blk_frozen BK104.out 2; have hfzy275009 := blk_frozen BK104.out 3; have hfzy2750010 := blk_frozen BK104.out 4; have hfzy2750011 := blk_frozen BK104.out 5))
                      first
                       | clear hm10_1
                         repeat (go_quiet (first | (go_at_call 37; (with_reducible refine (plane_Check.calls ((rd_T95 l0 x16_1).f0.f1.f0) ((rd_T95 l0 x16_1).f0.f1.f1) t106 _ A21.out).mono ?_); rintro e wxebd41 ⟨rfl, hb⟩; have n0_ := kp BK104 hb; have n1_ := st HB hb; clear BK104; clear HB; have BK104 := n0_; have HB := n1_; clear n0_ n1_; (try clear hb); (try clear hb2); (try clear hk); (try clear hi); have hczze7 : wxebd41.cell? ⟨gb104, 0, none⟩ = some (.int .i64 ((rd_T95 l0 x16_1).f0.f0)) := bc BK104 0; have hczze8 : wxebd41.cell? ⟨gb104, 1, none⟩ = some (.int .i64 ((rd_T95 l0 x16_1).f0.f1.f0)) := bc BK104 1; have hczze9 : wxebd41.cell? ⟨gb104, 2, none⟩ = some (.int .i64 ((rd_T95 l0 x16_1).f0.f1.f1)) := bc BK104 2; have hczze10 : wxebd41.cell? ⟨gb104, 3, none⟩ = some (.int .i64 ((rd_T95 l0 x16_1).f0.f2)) := bc BK104 3; have hczze11 : wxebd41.cell? ⟨gb104, 4, none⟩ = some (.int .i64 ((rd_T95 l0 x16_1).f1)) := bc BK104 4; have hczze12 : wxebd41.cell? ⟨gb104, 5, none⟩ = some (.int .i64 ((rd_T95 l0 x16_1).f2)) := bc BK104 5; have hfzze7 := blk_frozen BK104.out 0; have hfzze8 := blk_frozen BK104.out 1; have hfzze9 := blk_frozen BK104.out 2; have hfzze10 := blk_frozen BK104.out 3; have hfzze11 := blk_frozen BK104.out 4; have hfzze12 := blk_frozen BK104.out 5)); try go_wp2_with (first | (go_at_call 37; (with_reducible refine (plane_Check.calls ((rd_T95 l0 x16_1).f0.f1.f0) ((rd_T95 l0 x16_1).f0.f1.f1) t106 _ A21.out).mono ?_); rintro e wxebd41 ⟨rfl, hb⟩; have n0_ := kp BK104 hb; have n1_ := st HB hb; clear BK104; clear HB; have BK104 := n0_; have HB := n1_; clear n0_ n1_; (try clear hb); (try clear hb2); (try clear hk); (try clear hi); have hczze7 : wxebd41.cell? ⟨gb104, 0, none⟩ = some (.int .i64 ((rd_T95 l0 x16_1).f0.f0)) := bc BK104 0; have hczze8 : wxebd41.cell? ⟨gb104, 1, none⟩ = some (.int .i64 ((rd_T95 l0 x16_1).f0.f1.f0)) := bc BK104 1; have hczze9 : wxebd41.cell? ⟨gb104, 2, none⟩ = some (.int .i64 ((rd_T95 l0 x16_1).f0.f1.f1)) := bc BK104 2; have hczze10 : wxebd41.cell? ⟨gb104, 3, none⟩ = some (.int .i64 ((rd_T95 l0 x16_1).f0.f2)) := bc BK104 3; have hczze11 : wxebd41.cell? ⟨gb104, 4, none⟩ = some (.int .i64 ((rd_T95 l0 x16_1).f1)) := bc BK104 4; have hczze12 : wxebd41.cell? ⟨gb104, 5, none⟩ = some (.int .i64 ((rd_T95 l0 x16_1).f2)) := bc BK104 5; have hfzze7 := blk_frozen BK104.out 0; have hfzze8 := blk_frozen BK104.out 1; have hfzze9 := blk_frozen BK104.out 2; have hfzze10 := blk_frozen BK104.out 3; have hfzze11 := blk_frozen BK104.out 4; have hfzze12 := blk_frozen BK104.out 5)))
                         go_ret
                         exact ⟨by first | rfl | (simp [errW_none, errW_some] <;> rfl) | (simp [*, errW_none, errW_some] <;> rfl), by repeat (first | (with_reducible first | exact HB.out | apply below_alloc | apply pw_below_drewN | apply below_drew1 | refine below_set ?_ GE104.out) | exact HB.out)⟩
                       | clear hm10_3
                         repeat (go_quiet (first | (go_at_call 37; (with_reducible refine (plane_Check.calls ((rd_T95 l0 x16_1).f0.f1.f0) ((rd_T95 l0 x16_1).f0.f1.f1) t106 _ A21.out).mono ?_); rintro e wx47a31 ⟨rfl, hb⟩; have n0_ := kp BK104 hb; have n1_ := st HB hb; clear BK104; clear HB; have BK104 := n0_; have HB := n1_; clear n0_ n1_; (try clear hb); (try clear hb2); (try clear hk); (try clear hi))); try go_wp2_with (first | (go_at_call 37; (with_reducible refine (plane_Check.calls ((rd_T95 l0 x16_1).f0.f1.f0) ((rd_T95 l0 x16_1).f0.f1.f1) t106 _ A21.out).mono ?_); rintro e wx47a31 ⟨rfl, hb⟩; have n0_ := kp BK104 hb; have n1_ := st HB hb; clear BK104; clear HB; have BK104 := n0_; have HB := n1_; clear n0_ n1_; (try clear hb); (try clear hb2); (try clear hk); (try clear hi))))
                         go_ret
                         exact ⟨by first | rfl | (simp [errW_none, errW_some] <;> rfl) | (simp [*, errW_none, errW_some] <;> rfl), by repeat (first | (with_reducible first | exact HB.out | apply below_alloc | apply pw_below_drewN | apply below_drew1 | refine below_set ?_ GE104.out) | exact HB.out)⟩
                 | clear hm10_2; have H' := Aside0.mk H; clear H; have hczze1 : wc.cell? ⟨gb104, 0, none⟩ = some (.int .i64 ((rd_T95 l0 x16_1).f0.f0)) := bc BK104 0; have hczze2 : wc.cell? ⟨gb104, 1, none⟩ = some (.int .i64 ((rd_T95 l0 x16_1).f0.f1.f0)) := bc BK104 1; have hczze3 : wc.cell? ⟨gb104, 2, none⟩ = some (.int .i64 ((rd_T95 l0 x16_1).f0.f1.f1)) := bc BK104 2; have hczze4 : wc.cell? ⟨gb104, 3, none⟩ = some (.int .i64 ((rd_T95 l0 x16_1).f0.f2)) := bc BK104 3; have hczze5 : wc.cell? ⟨gb104, 4, none⟩ = some (.int .i64 ((rd_T95 l0 x16_1).f1)) := bc BK104 4; have hczze6 : wc.cell? ⟨gb104, 5, none⟩ = some (.int .i64 ((rd_T95 l0 x16_1).f2)) := bc BK104 5; have hfzze1 := blk_frozen BK104.out 0; have hfzze2 := blk_frozen BK104.out 1; have hfzze3 := blk_frozen BK104.out 2; have hfzze4 := blk_frozen BK104.out 3; have hfzze5 := blk_frozen BK104.out 4; have hfzze6 := blk_frozen BK104.out 5
                   go_wp2_with (first | (go_at_call 37; (with_reducible refine (plane_Check.calls ((rd_T95 l0 x16_1).f0.f1.f0) ((rd_T95 l0 x16_1).f0.f1.f1) t106 _ A21.out).mono ?_); rintro e wxebd41 ⟨rfl, hb⟩; have n0_ := kp BK104 hb; have n1_ := st HB hb; clear BK104; clear HB; have BK104 := n0_; have HB := n1_; clear n0_ n1_; (try clear hb); (try clear hb2); (try clear hk); (try clear hi); have hczy275000 : wxebd41.cell? ⟨gb104, 0, none⟩ = some (.int .i64 ((rd_T95 l0 x16_1).f0.f0)) := bc BK104 0; have hczy275001 : wxebd41.cell? ⟨gb104, 1, none⟩ = some (.int .i64 ((rd_T95 l0 x16_1).f0.f1.f0)) := bc BK104 1; have hczy275002 : wxebd41.cell? ⟨gb104, 2, none⟩ = some (.int .i64 ((rd_T95 l0 x16_1).f0.f1.f1)) := bc BK104 2; have hczy275003 : wxebd41.cell? ⟨gb104, 3, none⟩ = some (.int .i64 ((rd_T95 l0 x16_1).f0.f2)) := bc BK104 3; have hczy275004 : wxebd41.cell? ⟨gb104, 4, none⟩ = some (.int .i64 ((rd_T95 l0 x16_1).f1)) := bc BK104 4; have hczy275005 : wxebd41.cell? ⟨gb104, 5, none⟩ = some (.int .i64 ((rd_T95 l0 x16_1).f2)) := bc BK104 5; have hfzy275006 := blk_frozen BK104.out 0; have hfzy275007 := blk_frozen BK104.out 1; have hfzy275008 := blk_frozen BK104.out 2; have hfzy275009 := blk_frozen BK104.out 3; have hfzy2750010 := blk_frozen BK104.out 4; have hfzy2750011 := blk_frozen BK104.out 5))
                   repeat (go_quiet (first | (go_at_call 37; (with_reducible refine (plane_Check.calls ((rd_T95 l0 x16_1).f0.f1.f0) ((rd_T95 l0 x16_1).f0.f1.f1) t106 _ A21.out).mono ?_); rintro e wxebd41 ⟨rfl, hb⟩; have n0_ := kp BK104 hb; have n1_ := st HB hb; clear BK104; clear HB; have BK104 := n0_; have HB := n1_; clear n0_ n1_; (try clear hb); (try clear hb2); (try clear hk); (try clear hi); have hczze7 : wxebd41.cell? ⟨gb104, 0, none⟩ = some (.int .i64 ((rd_T95 l0 x16_1).f0.f0)) := bc BK104 0; have hczze8 : wxebd41.cell? ⟨gb104, 1, none⟩ = some (.int .i64 ((rd_T95 l0 x16_1).f0.f1.f0)) := bc BK104 1; have hczze9 : wxebd41.cell? ⟨gb104, 2, none⟩ = some (.int .i64 ((rd_T95 l0 x16_1).f0.f1.f1)) := bc BK104 2; have hczze10 : wxebd41.cell? ⟨gb104, 3, none⟩ = some (.int .i64 ((rd_T95 l0 x16_1).f0.f2)) := bc BK104 3; have hczze11 : wxebd41.cell? ⟨gb104, 4, none⟩ = some (.int .i64 ((rd_T95 l0 x16_1).f1)) := bc BK104 4; have hczze12 : wxebd41.cell? ⟨gb104, 5, none⟩ = some (.int .i64 ((rd_T95 l0 x16_1).f2)) := bc BK104 5; have hfzze7 := blk_frozen BK104.out 0; have hfzze8 := blk_frozen BK104.out 1; have hfzze9 := blk_frozen BK104.out 2; have hfzze10 := blk_frozen BK104.out 3; have hfzze11 := blk_frozen BK104.out 4; have hfzze12 := blk_frozen BK104.out 5)); try go_wp2_with (first | (go_at_call 37; (with_reducible refine (plane_Check.calls ((rd_T95 l0 x16_1).f0.f1.f0) ((rd_T95 l0 x16_1).f0.f1.f1) t106 _ A21.out).mono ?_); rintro e wxebd41 ⟨rfl, hb⟩; have n0_ := kp BK104 hb; have n1_ := st HB hb; clear BK104; clear HB; have BK104 := n0_; have HB := n1_; clear n0_ n1_; (try clear hb); (try clear hb2); (try clear hk); (try clear hi); have hczze7 : wxebd41.cell? ⟨gb104, 0, none⟩ = some (.int .i64 ((rd_T95 l0 x16_1).f0.f0)) := bc BK104 0; have hczze8 : wxebd41.cell? ⟨gb104, 1, none⟩ = some (.int .i64 ((rd_T95 l0 x16_1).f0.f1.f0)) := bc BK104 1; have hczze9 : wxebd41.cell? ⟨gb104, 2, none⟩ = some (.int .i64 ((rd_T95 l0 x16_1).f0.f1.f1)) := bc BK104 2; have hczze10 : wxebd41.cell? ⟨gb104, 3, none⟩ = some (.int .i64 ((rd_T95 l0 x16_1).f0.f2)) := bc BK104 3; have hczze11 : wxebd41.cell? ⟨gb104, 4, none⟩ = some (.int .i64 ((rd_T95 l0 x16_1).f1)) := bc BK104 4; have hczze12 : wxebd41.cell? ⟨gb104, 5, none⟩ = some (.int .i64 ((rd_T95 l0 x16_1).f2)) := bc BK104 5; have hfzze7 := blk_frozen BK104.out 0; have hfzze8 := blk_frozen BK104.out 1; have hfzze9 := blk_frozen BK104.out 2; have hfzze10 := blk_frozen BK104.out 3; have hfzze11 := blk_frozen BK104.out 4; have hfzze12 := blk_frozen BK104.out 5)))
                   go_roundg kj6
                   case measure => have := HK1.out; have := HJ6.out; omega
                   case rel => exact ⟨(wrap64 (x16_1 + 1)), (by first | rfl | (simp; done) | (simp [*]; done)), H', ⟨by have := HK1.out; have := HJ6.out; omega⟩, ⟨by repeat (first | (with_reducible first | exact HB.out | apply below_alloc | apply pw_below_drewN | apply below_drew1 | refine below_set ?_ GE104.out) | exact HB.out)⟩⟩
           · rw [if_neg c6] at H; exact absurd H (by simp)
         · rw [if_neg c5] at H; exact absurd H (by simp)
       · rw [if_neg c4] at H; have c4b0 : decide (x16_1 < (l0.length : Int)) = false := decide_eq_false c4; clear c4; obtain rfl := Option.some.inj H; go_wp2
         repeat (go_quiet (fail); try go_wp2)
         go_ret
         exact ⟨by first | rfl | (simp [errW_none, errW_some] <;> rfl) | (simp [*, errW_none, errW_some] <;> rfl), by repeat (first | (with_reducible first | exact HB.out | apply below_alloc | apply pw_below_drewN | apply below_drew1) | exact HB.out)⟩

/-! ### probe_check: function 45 -/
def probe_check.l0 : Nat → List (List (S95)) → Int → Int → Option (Int)
  | 0, _, _, _ => none
  | k + 1, x14, x15, x16 => if x16 < x15 then (if 0 ≤ x16 then (if x16 < (x14.length : Int) then ((tube_Check.f k (rd_L4 x14 x16)).bind fun t110 => (if t110 = 0 then (probe_check.l0 k x14 x15 (wrap64 (x16 + 1))) else (some t110))) else (none)) else (none)) else (some 0)
def probe_check.f (k : Nat) (a0_0 : Int) (a0_1 : Int) (l1 : List (List (S95))) : Option (Int) := (probe_CheckSep.f a0_0 a0_1).bind fun t108 => (if t108 = 0 then (probe_check.l0 k l1 (l1.length : Int) 0) else (some t108))
theorem probe_check.mono_l : ∀ k, (∀ y0 y1 y2, LeO (probe_check.l0 k y0 y1 y2) (probe_check.l0 (k + 1) y0 y1 y2))
  | 0 => fun _ _ _ r h => by simp [probe_check.l0] at h
  | k + 1 => by
    have ih0 := probe_check.mono_l k
    · intro y0 y1 y2; unfold probe_check.l0
      repeat' first
      | (with_reducible exact ih0 _ _ _)
      | (with_reducible exact tube_Check.mono _ _)
      | (with_reducible exact LeO.refl _)
      | (with_reducible exact LeO.none _)
      | (with_reducible refine LeO.ite ?_ ?_)
      | (with_reducible refine LeO.bind ?_ (fun _ => ?_))
      | exact ih0 _ _ _
      | exact tube_Check.mono _ _
      | exact LeO.none _
      | refine LeO.ite ?_ ?_
      | refine LeO.bind ?_ (fun _ => ?_)
theorem probe_check.mono : ∀ a0 a1 a2 k, LeO (probe_check.f k a0 a1 a2) (probe_check.f (k + 1) a0 a1 a2) := by
  intro a0 a1 a2 k; have ih0 := probe_check.mono_l k; unfold probe_check.f
  repeat' first
      | (with_reducible exact ih0 _ _ _)
      | (with_reducible exact tube_Check.mono _ _)
      | (with_reducible exact LeO.refl _)
      | (with_reducible exact LeO.none _)
      | (with_reducible refine LeO.ite ?_ ?_)
      | (with_reducible refine LeO.bind ?_ (fun _ => ?_))
      | exact ih0 _ _ _
      | exact tube_Check.mono _ _
      | exact LeO.none _
      | refine LeO.ite ?_ ?_
      | refine LeO.bind ?_ (fun _ => ?_)
set_option maxHeartbeats 8000000 in
set_option maxRecDepth 100000 in
theorem probe_check.calls (k : Nat) (a0_0 : Int) (a0_1 : Int) (A1 : Option Addr) (c1 : Nat) (l1 : List (List (S95))) (r : Int) (w : World) (hr1 : Kd.C (Kd.slice 95 k95) w A1 l1.length l1) (hc1 : l1.length ≤ c1) (h : probe_check.f k a0_0 a0_1 l1 = some r) :
    Calls Try.prog 45 #[.agg #[.int .i64 a0_0, .int .i64 a0_1], .slice A1 l1.length c1] w fun e w' => e = .returned (.int .i64 r) ∧ Below w.heap.size w w' := by
  have hu51 := Try.underlying51; have HR1 := Aside0.mk hr1; have HC1 := Aside0.mk hc1; clear hr1 hc1; have HB := Aside0.mk (Below.refl w.heap.size w); have H : ((probe_CheckSep.f a0_0 a0_1).bind fun t108 => (if t108 = 0 then (probe_check.l0 k l1 (l1.length : Int) 0) else (some t108))) = some r := h; clear h; replace H := Option.bind_eq_some_iff.mp H; obtain ⟨t108, A30, H⟩ := H; replace H : (if t108 = 0 then (probe_check.l0 k l1 (l1.length : Int) 0) else (some t108)) = some r := H; have A3 := Aside0.mk A30; clear A30
  by_cases c4 : t108 = 0
  · rw [if_pos c4] at H; have c4b0 : (t108 == 0) = true := beq_iff_eq.mpr c4; have c4b1 : (t108 != 0) = false := bne_eq_false_iff_eq.mpr c4; clear c4; have H' := Aside0.mk H; clear H; go_enter Try.func45, Try.ntmps45
    go_wp2_with (first | ((with_reducible refine gate_dst (N := 2) rfl ?_); refine box_s #[.int .i64 a0_0, .int .i64 a0_1] 51 ?_; intro gb107 hg w5 hbox hb; have n0_ := st HB hb; have n1_ := Aside0.mk (hbox); have n2_ := ge HB hg; have n3_ := ge HB hg; clear HB; have HB := n0_; have BK107 := n1_; have GW107 := n2_; have GE107 := n3_; clear n0_ n1_ n2_ n3_; clear hb hbox hg; have hcz6_0 : w5.cell? ⟨gb107, 0, none⟩ = some (.int .i64 a0_0) := bc BK107 0; have hcz6_1 : w5.cell? ⟨gb107, 1, none⟩ = some (.int .i64 a0_1) := bc BK107 1; have hfz6_0 := blk_frozen BK107.out 0; have hfz6_1 := blk_frozen BK107.out 1) | ((with_reducible refine gate_callee (f := 44) rfl ?_); refine goesL_ (some 10) rfl rfl Try.func44 (by kernel_rfl) rfl #[.agg #[.int .i64 a0_0, .int .i64 a0_1]] rfl any_s ?_; (with_reducible refine (probe_CheckSep.calls a0_0 a0_1 t108 _ A3.out).mono ?_); rintro e w7 ⟨rfl, hb⟩; refine ⟨_, rfl, ?_⟩; have n0_ := kp BK107 hb; have n1_ := st HB hb; clear BK107; clear HB; have BK107 := n0_; have HB := n1_; clear n0_ n1_; (try clear hb); (try clear hb2); (try clear hk); (try clear hi)))
    go_loopg [16] k (fun kq v16 w' => ∃ (x16_1 : Int), v16 = .int .i64 x16_1 ∧ Aside0 (probe_check.l0 kq l1 (l1.length : Int) x16_1 = some r) ∧ Aside0 (kq ≤ k) ∧ Aside0 (w'.heap[gb107]? = some (.cells #[.int .i64 a0_0, .int .i64 a0_1] 51 (0, 0))) ∧ Aside0 (Below w.heap.size w w'))
    case atStart => exact ⟨(0), (by first | rfl | (simp; done) | (simp [*]; done)), H', ⟨Nat.le_refl _⟩, ⟨by (with_reducible repeat (first | refine blk_drewN ?_ _ | refine blk_drew ?_ | refine blk_alloc ?_ _)); exact BK107.out⟩, ⟨by repeat (first | (with_reducible first | exact HB.out | apply below_alloc | apply pw_below_drewN | apply below_drew1 | refine below_set ?_ GE107.out) | exact HB.out)⟩⟩
    case round =>
      clear H'
      try clear c1
      try clear p2
      try clear c4
      try clear c4b0
      try clear c4b1
      try clear hcz6_0
      try clear hcz6_1
      try clear hfz6_0
      try clear hfz6_1
      obtain ⟨x16_1, rfl, HA, HK1, BK107, HB⟩ := hrel
      cases gk with
      | zero => exact absurd HA.out (by simp [probe_check.l0])
      | succ k1 =>
        have H := HA.out; clear HA; simp only [probe_check.l0] at H
        by_cases c8 : x16_1 < (l1.length : Int)
        · rw [if_pos c8] at H; have c8b0 : decide (x16_1 < (l1.length : Int)) = true := decide_eq_true c8; clear c8
          by_cases c9 : 0 ≤ x16_1
          · rw [if_pos c9] at H; have c9b0 : decide (0 ≤ x16_1) = true := decide_eq_true c9; clear c9
            by_cases c10 : x16_1 < (l1.length : Int)
            · rw [if_pos c10] at H; have c10b0 : decide (x16_1 < (l1.length : Int)) = true := decide_eq_true c10; clear c10; replace H := Option.bind_eq_some_iff.mp H; obtain ⟨t110, A110, H⟩ := H; replace H : (if t110 = 0 then (probe_check.l0 k1 l1 (l1.length : Int) (wrap64 (x16_1 + 1))) else (some t110)) = some r := H; have A11 := Aside0.mk A110; clear A110
              by_cases c12 : t110 = 0
              · rw [if_pos c12] at H; have c12b0 : (t110 == 0) = true := beq_iff_eq.mpr c12; have c12b1 : (t110 != 0) = false := bne_eq_false_iff_eq.mpr c12; clear c12; have H' := Aside0.mk H; clear H
                have p109 : 0 ≤ (x16_1 : Int) := of_decide_eq_true (by first | (with_reducible assumption) | assumption)
                have q109 : x16_1 < (l1.length : Int) := of_decide_eq_true (by first | (with_reducible assumption) | assumption)
                obtain ⟨ad109, A109_0, c109_0, e109, hx109_0, hl109_0, hi109_0⟩ := at_L4 HR1.out x16_1 p109 q109; cases e109; replace hx109_0 := cl HB hx109_0; have HR109_0 := Aside0.mk hi109_0; have HC109_0 := Aside0.mk hl109_0; clear hi109_0 hl109_0; replace p109 := eq_true p109; replace q109 := eq_true q109
                go_wp2_with (first | ((with_reducible refine gate_callee (f := 70) rfl ?_); refine goesL_ (some 21) rfl rfl Try.func70 (by kernel_rfl) rfl #[.slice A109_0 (rd_L4 l1 x16_1).length c109_0] rfl any_s ?_; (with_reducible refine (tube_Check.calls k1 _ _ (rd_L4 l1 x16_1) t110 _ ?side1 ?side2 A11.out).mono ?_); (case side1 => exact cb_s (Kd.C_below HR109_0.out HB.out)); (case side2 => exact HC109_0.out); rintro e w13 ⟨rfl, hb⟩; refine ⟨_, rfl, ?_⟩; have n0_ := kp BK107 hb; have n1_ := st HB hb; clear BK107; clear HB; have BK107 := n0_; have HB := n1_; clear n0_ n1_; (try clear hb); (try clear hb2); (try clear hk); (try clear hi)))
                go_roundg k1
                case measure => have := HK1.out; omega
                case rel => exact ⟨(wrap64 (x16_1 + 1)), (by first | rfl | (simp; done) | (simp [*]; done)), H', ⟨by have := HK1.out; omega⟩, ⟨by (with_reducible repeat (first | refine blk_drewN ?_ _ | refine blk_drew ?_ | refine blk_alloc ?_ _)); exact BK107.out⟩, ⟨by repeat (first | (with_reducible first | exact HB.out | apply below_alloc | apply pw_below_drewN | apply below_drew1 | refine below_set ?_ GE107.out) | exact HB.out)⟩⟩
              · rw [if_neg c12] at H; have c12b0 : (t110 == 0) = false := beq_eq_false_iff_ne.mpr c12; have c12b1 : (t110 != 0) = true := bne_iff_ne.mpr c12; obtain rfl := Option.some.inj H
                have p109 : 0 ≤ (x16_1 : Int) := of_decide_eq_true (by first | (with_reducible assumption) | assumption)
                have q109 : x16_1 < (l1.length : Int) := of_decide_eq_true (by first | (with_reducible assumption) | assumption)
                obtain ⟨ad109, A109_0, c109_0, e109, hx109_0, hl109_0, hi109_0⟩ := at_L4 HR1.out x16_1 p109 q109; cases e109; replace hx109_0 := cl HB hx109_0; have HR109_0 := Aside0.mk hi109_0; have HC109_0 := Aside0.mk hl109_0; clear hi109_0 hl109_0; replace p109 := eq_true p109; replace q109 := eq_true q109
                go_wp2_with (first | ((with_reducible refine gate_callee (f := 70) rfl ?_); refine goesL_ (some 21) rfl rfl Try.func70 (by kernel_rfl) rfl #[.slice A109_0 (rd_L4 l1 x16_1).length c109_0] rfl any_s ?_; (with_reducible refine (tube_Check.calls k1 _ _ (rd_L4 l1 x16_1) t110 _ ?side1 ?side2 A11.out).mono ?_); (case side1 => exact cb_s (Kd.C_below HR109_0.out HB.out)); (case side2 => exact HC109_0.out); rintro e w14 ⟨rfl, hb⟩; refine ⟨_, rfl, ?_⟩; have n0_ := kp BK107 hb; have n1_ := st HB hb; clear BK107; clear HB; have BK107 := n0_; have HB := n1_; clear n0_ n1_; (try clear hb); (try clear hb2); (try clear hk); (try clear hi)))
                go_ret
                exact ⟨by first | rfl | (simp [errW_none, errW_some] <;> rfl) | (simp [*, errW_none, errW_some] <;> rfl), by repeat (first | (with_reducible first | exact HB.out | apply below_alloc | apply pw_below_drewN | apply below_drew1 | refine below_set ?_ GE107.out) | exact HB.out)⟩
            · rw [if_neg c10] at H; exact absurd H (by simp)
          · rw [if_neg c9] at H; exact absurd H (by simp)
        · rw [if_neg c8] at H; have c8b0 : decide (x16_1 < (l1.length : Int)) = false := decide_eq_false c8; clear c8; obtain rfl := Option.some.inj H; go_wp2; go_ret
          exact ⟨by first | rfl | (simp [errW_none, errW_some] <;> rfl) | (simp [*, errW_none, errW_some] <;> rfl), by repeat (first | (with_reducible first | exact HB.out | apply below_alloc | apply pw_below_drewN | apply below_drew1 | refine below_set ?_ GE107.out) | exact HB.out)⟩
  · rw [if_neg c4] at H; have c4b0 : (t108 == 0) = false := beq_eq_false_iff_ne.mpr c4; have c4b1 : (t108 != 0) = true := bne_iff_ne.mpr c4; obtain rfl := Option.some.inj H; go_enter Try.func45, Try.ntmps45
    go_wp2_with (first | ((with_reducible refine gate_dst (N := 2) rfl ?_); refine box_s #[.int .i64 a0_0, .int .i64 a0_1] 51 ?_; intro gb107 hg w15 hbox hb; have n0_ := st HB hb; have n1_ := Aside0.mk (hbox); have n2_ := ge HB hg; have n3_ := ge HB hg; clear HB; have HB := n0_; have BK107 := n1_; have GW107 := n2_; have GE107 := n3_; clear n0_ n1_ n2_ n3_; clear hb hbox hg; have hcz16_0 : w15.cell? ⟨gb107, 0, none⟩ = some (.int .i64 a0_0) := bc BK107 0; have hcz16_1 : w15.cell? ⟨gb107, 1, none⟩ = some (.int .i64 a0_1) := bc BK107 1; have hfz16_0 := blk_frozen BK107.out 0; have hfz16_1 := blk_frozen BK107.out 1) | ((with_reducible refine gate_callee (f := 44) rfl ?_); refine goesL_ (some 10) rfl rfl Try.func44 (by kernel_rfl) rfl #[.agg #[.int .i64 a0_0, .int .i64 a0_1]] rfl any_s ?_; (with_reducible refine (probe_CheckSep.calls a0_0 a0_1 t108 _ A3.out).mono ?_); rintro e w17 ⟨rfl, hb⟩; refine ⟨_, rfl, ?_⟩; have n0_ := kp BK107 hb; have n1_ := st HB hb; clear BK107; clear HB; have BK107 := n0_; have HB := n1_; clear n0_ n1_; (try clear hb); (try clear hb2); (try clear hk); (try clear hi)))
    go_ret
    exact ⟨by first | rfl | (simp [errW_none, errW_some] <;> rfl) | (simp [*, errW_none, errW_some] <;> rfl), by repeat (first | (with_reducible first | exact HB.out | apply below_alloc | apply pw_below_drewN | apply below_drew1 | refine below_set ?_ GE107.out) | exact HB.out)⟩

/-! ### plane_Sub: function 83 -/
def plane_Sub.f (a0_0 : Int) (a0_1 : Int) (a1_0 : Int) (a1_1 : Int) : Option (Int × Int) := some (wrap64 (a0_0 - a1_0), wrap64 (a0_1 - a1_1))
set_option maxHeartbeats 8000000 in
set_option maxRecDepth 100000 in
theorem plane_Sub.calls (a0_0 : Int) (a0_1 : Int) (a1_0 : Int) (a1_1 : Int) (r1 : Int) (r2 : Int) (w : World) (h : plane_Sub.f a0_0 a0_1 a1_0 a1_1 = some (r1, r2)) :
    Calls Try.prog 83 #[.agg #[.int .i64 a0_0, .int .i64 a0_1], .agg #[.int .i64 a1_0, .int .i64 a1_1]] w fun e w' => e = .returned (.agg #[.int .i64 r1, .int .i64 r2]) ∧ Below w.heap.size w w' := by
 have hu41 := Try.underlying41; have HB := Aside0.mk (Below.refl w.heap.size w); have H : (some (wrap64 (a0_0 - a1_0), wrap64 (a0_1 - a1_1))) = some (r1, r2) := h; clear h; simp only [Option.some.injEq, Prod.mk.injEq] at H; obtain ⟨rfl, rfl⟩ := H; go_enter Try.func83, Try.ntmps83
 go_wp2_with (first | ((with_reducible refine gate_dst (N := 2) rfl ?_); refine box_s #[.int .i64 a0_0, .int .i64 a0_1] 41 ?_; intro gb111 hg w3 hbox hb; have n0_ := st HB hb; have n1_ := Aside0.mk (hbox); have n2_ := ge HB hg; have n3_ := ge HB hg; clear HB; have HB := n0_; have BK111 := n1_; have GW111 := n2_; have GE111 := n3_; clear n0_ n1_ n2_ n3_; clear hb hbox hg) | ((with_reducible refine gate_dst (N := 3) rfl ?_); refine box_s #[.int .i64 a1_0, .int .i64 a1_1] 41 ?_; intro gb112 hg w4 hbox hb; have n0_ := kp BK111 hb; have n1_ := st HB hb; have n2_ := Aside0.mk (hbox); have n3_ := ge HB hg; have n4_ := ge HB hg; have n5_ := nl BK111 hg; have n6_ := nr BK111 hg; clear BK111; clear HB; have BK111 := n0_; have HB := n1_; have BK112 := n2_; have GW112 := n3_; have GE112 := n4_; have NB111_112 := n5_; have NB112_111 := n6_; clear n0_ n1_ n2_ n3_ n4_ n5_ n6_; clear hb hbox hg) | ((with_reducible refine gate_dst (N := 4) rfl ?_); refine box_s #[.int .i64 0, .int .i64 0] 41 ?_; intro gb113 hg w5 hbox hb; have n0_ := kp BK111 hb; have n1_ := kp BK112 hb; have n2_ := st HB hb; have n3_ := Aside0.mk (hbox); have n4_ := ge HB hg; have n5_ := ge HB hg; have n6_ := nl BK111 hg; have n7_ := nr BK111 hg; have n8_ := nl BK112 hg; have n9_ := nr BK112 hg; clear BK111; clear BK112; clear HB; have BK111 := n0_; have BK112 := n1_; have HB := n2_; have BK113 := n3_; have GW113 := n4_; have GE113 := n5_; have NB111_113 := n6_; have NB113_111 := n7_; have NB112_113 := n8_; have NB113_112 := n9_; clear n0_ n1_ n2_ n3_ n4_ n5_ n6_ n7_ n8_ n9_; clear hb hbox hg; have hnb6 := NB111_112.out; have hnc6 := NB112_111.out; have hnb7 := NB111_113.out; have hnc7 := NB113_111.out; have hcz8_0 : w5.cell? ⟨gb111, 0, none⟩ = some (.int .i64 a0_0) := bc BK111 0; have hcz8_1 : w5.cell? ⟨gb111, 1, none⟩ = some (.int .i64 a0_1) := bc BK111 1; have hfz8_0 := blk_frozen BK111.out 0; have hfz8_1 := blk_frozen BK111.out 1; have hnb9 := NB112_113.out; have hnc9 := NB113_112.out; have hcz10_0 : w5.cell? ⟨gb112, 0, none⟩ = some (.int .i64 a1_0) := bc BK112 0; have hcz10_1 : w5.cell? ⟨gb112, 1, none⟩ = some (.int .i64 a1_1) := bc BK112 1; have hfz10_0 := blk_frozen BK112.out 0; have hfz10_1 := blk_frozen BK112.out 1; have hcz11_0 : w5.cell? ⟨gb113, 0, none⟩ = some (.int .i64 0) := bc BK113 0; have hcz11_1 : w5.cell? ⟨gb113, 1, none⟩ = some (.int .i64 0) := bc BK113 1; have hfz11_0 := blk_frozen BK113.out 0; have hfz11_1 := blk_frozen BK113.out 1))
 refine bodyPost_ret (results_cell_row rfl _ _ gb113 41 #[.int .i64 (wrap64 (a0_0 - a1_0)), .int .i64 (wrap64 (a0_1 - a1_1))] (0, 0) _ rfl (by (with_reducible repeat (first | refine blk_drewN ?_ _ | refine blk_drew ?_ | refine blk_alloc ?_ _)); refine blk_put (cs := #[.int .i64 (wrap64 (a0_0 - a1_0)), .int .i64 0]) ?_ 1 _ rfl; (with_reducible repeat (first | refine blk_drewN ?_ _ | refine blk_drew ?_ | refine blk_alloc ?_ _)); refine blk_put (cs := #[.int .i64 0, .int .i64 0]) ?_ 0 _ rfl; (with_reducible repeat (first | refine blk_drewN ?_ _ | refine blk_drew ?_ | refine blk_alloc ?_ _)); exact BK113.out) Try.underlying41 rfl (by kernel_rfl)) rfl ?_
 exact ⟨by first | rfl | (simp [errW_none, errW_some] <;> rfl) | (simp [*, errW_none, errW_some] <;> rfl), by repeat (first | (with_reducible first | exact HB.out | apply below_alloc | apply pw_below_drewN | apply below_drew1 | refine below_set ?_ GE111.out | refine below_set ?_ GE112.out | refine below_set ?_ GE113.out) | exact HB.out)⟩

/-! ### plane_Dot: function 84 -/
def plane_Dot.f (a0_0 : Int) (a0_1 : Int) (a1_0 : Int) (a1_1 : Int) : Option (Int) := some (wrap64 ((wrap64 (a0_0 * a1_0)) + (wrap64 (a0_1 * a1_1))))
set_option maxHeartbeats 8000000 in
set_option maxRecDepth 100000 in
theorem plane_Dot.calls (a0_0 : Int) (a0_1 : Int) (a1_0 : Int) (a1_1 : Int) (r : Int) (w : World) (h : plane_Dot.f a0_0 a0_1 a1_0 a1_1 = some r) :
    Calls Try.prog 84 #[.agg #[.int .i64 a0_0, .int .i64 a0_1], .agg #[.int .i64 a1_0, .int .i64 a1_1]] w fun e w' => e = .returned (.int .i64 r) ∧ Below w.heap.size w w' := by
 have hu41 := Try.underlying41; have HB := Aside0.mk (Below.refl w.heap.size w); have H : (some (wrap64 ((wrap64 (a0_0 * a1_0)) + (wrap64 (a0_1 * a1_1))))) = some r := h; clear h; obtain rfl := Option.some.inj H; go_enter Try.func84, Try.ntmps84
 go_wp2_with (first | ((with_reducible refine gate_dst (N := 2) rfl ?_); refine box_s #[.int .i64 a0_0, .int .i64 a0_1] 41 ?_; intro gb114 hg w3 hbox hb; have n0_ := st HB hb; have n1_ := Aside0.mk (hbox); have n2_ := ge HB hg; have n3_ := ge HB hg; clear HB; have HB := n0_; have BK114 := n1_; have GW114 := n2_; have GE114 := n3_; clear n0_ n1_ n2_ n3_; clear hb hbox hg) | ((with_reducible refine gate_dst (N := 3) rfl ?_); refine box_s #[.int .i64 a1_0, .int .i64 a1_1] 41 ?_; intro gb115 hg w4 hbox hb; have n0_ := kp BK114 hb; have n1_ := st HB hb; have n2_ := Aside0.mk (hbox); have n3_ := ge HB hg; have n4_ := ge HB hg; have n5_ := nl BK114 hg; have n6_ := nr BK114 hg; clear BK114; clear HB; have BK114 := n0_; have HB := n1_; have BK115 := n2_; have GW115 := n3_; have GE115 := n4_; have NB114_115 := n5_; have NB115_114 := n6_; clear n0_ n1_ n2_ n3_ n4_ n5_ n6_; clear hb hbox hg; have hnb5 := NB114_115.out; have hnc5 := NB115_114.out; have hcz6_0 : w4.cell? ⟨gb114, 0, none⟩ = some (.int .i64 a0_0) := bc BK114 0; have hcz6_1 : w4.cell? ⟨gb114, 1, none⟩ = some (.int .i64 a0_1) := bc BK114 1; have hfz6_0 := blk_frozen BK114.out 0; have hfz6_1 := blk_frozen BK114.out 1; have hcz7_0 : w4.cell? ⟨gb115, 0, none⟩ = some (.int .i64 a1_0) := bc BK115 0; have hcz7_1 : w4.cell? ⟨gb115, 1, none⟩ = some (.int .i64 a1_1) := bc BK115 1; have hfz7_0 := blk_frozen BK115.out 0; have hfz7_1 := blk_frozen BK115.out 1))
 go_ret
 exact ⟨by first | rfl | (simp [errW_none, errW_some] <;> rfl) | (simp [*, errW_none, errW_some] <;> rfl), by repeat (first | (with_reducible first | exact HB.out | apply below_alloc | apply pw_below_drewN | apply below_drew1 | refine below_set ?_ GE114.out | refine below_set ?_ GE115.out) | exact HB.out)⟩

/-! ### plane_Square: function 104 -/
def plane_Square.f (a0_0 : Int) (a0_1 : Int) (a1_0 : Int) (a1_1 : Int) : Option (Int) := (plane_Sub.f a0_0 a0_1 a1_0 a1_1).bind fun bt118 => ((plane_Dot.f bt118.1 bt118.2 bt118.1 bt118.2).bind fun t121 => (some t121))
set_option maxHeartbeats 8000000 in
set_option maxRecDepth 100000 in
theorem plane_Square.calls (a0_0 : Int) (a0_1 : Int) (a1_0 : Int) (a1_1 : Int) (r : Int) (w : World) (h : plane_Square.f a0_0 a0_1 a1_0 a1_1 = some r) :
    Calls Try.prog 104 #[.agg #[.int .i64 a0_0, .int .i64 a0_1], .agg #[.int .i64 a1_0, .int .i64 a1_1]] w fun e w' => e = .returned (.int .i64 r) ∧ Below w.heap.size w w' := by
 have hu41 := Try.underlying41; have HB := Aside0.mk (Below.refl w.heap.size w); have H : ((plane_Sub.f a0_0 a0_1 a1_0 a1_1).bind fun bt118 => ((plane_Dot.f bt118.1 bt118.2 bt118.1 bt118.2).bind fun t121 => (some t121))) = some r := h; clear h; replace H := Option.bind_eq_some_iff.mp H; obtain ⟨⟨t118, t119⟩, A30, H⟩ := H; replace H : ((plane_Dot.f t118 t119 t118 t119).bind fun t121 => (some t121)) = some r := H; have A3 := Aside0.mk A30; clear A30; replace H := Option.bind_eq_some_iff.mp H; obtain ⟨t121, A40, H⟩ := H; replace H : (some t121) = some r := H; have A4 := Aside0.mk A40; clear A40; obtain rfl := Option.some.inj H; go_enter Try.func104, Try.ntmps104
 go_wp2_with (first | ((with_reducible refine gate_dst (N := 2) rfl ?_); refine box_s #[.int .i64 a0_0, .int .i64 a0_1] 41 ?_; intro gb116 hg w5 hbox hb; have n0_ := st HB hb; have n1_ := Aside0.mk (hbox); have n2_ := ge HB hg; have n3_ := ge HB hg; clear HB; have HB := n0_; have BK116 := n1_; have GW116 := n2_; have GE116 := n3_; clear n0_ n1_ n2_ n3_; clear hb hbox hg) | ((with_reducible refine gate_dst (N := 3) rfl ?_); refine box_s #[.int .i64 a1_0, .int .i64 a1_1] 41 ?_; intro gb117 hg w6 hbox hb; have n0_ := kp BK116 hb; have n1_ := st HB hb; have n2_ := Aside0.mk (hbox); have n3_ := ge HB hg; have n4_ := ge HB hg; have n5_ := nl BK116 hg; have n6_ := nr BK116 hg; clear BK116; clear HB; have BK116 := n0_; have HB := n1_; have BK117 := n2_; have GW117 := n3_; have GE117 := n4_; have NB116_117 := n5_; have NB117_116 := n6_; clear n0_ n1_ n2_ n3_ n4_ n5_ n6_; clear hb hbox hg; have hnb7 := NB116_117.out; have hnc7 := NB117_116.out; have hcz8_0 : w6.cell? ⟨gb116, 0, none⟩ = some (.int .i64 a0_0) := bc BK116 0; have hcz8_1 : w6.cell? ⟨gb116, 1, none⟩ = some (.int .i64 a0_1) := bc BK116 1; have hfz8_0 := blk_frozen BK116.out 0; have hfz8_1 := blk_frozen BK116.out 1; have hcz9_0 : w6.cell? ⟨gb117, 0, none⟩ = some (.int .i64 a1_0) := bc BK117 0; have hcz9_1 : w6.cell? ⟨gb117, 1, none⟩ = some (.int .i64 a1_1) := bc BK117 1; have hfz9_0 := blk_frozen BK117.out 0; have hfz9_1 := blk_frozen BK117.out 1) | ((with_reducible refine gate_callee (f := 83) rfl ?_); refine goesL_ (some 8) rfl rfl Try.func83 (by kernel_rfl) rfl #[.agg #[.int .i64 a0_0, .int .i64 a0_1], .agg #[.int .i64 a1_0, .int .i64 a1_1]] rfl any_s ?_; (with_reducible refine (plane_Sub.calls a0_0 a0_1 a1_0 a1_1 t118 t119 _ A3.out).mono ?_); rintro e w10 ⟨rfl, hb⟩; refine ⟨_, rfl, ?_⟩; have n0_ := kp BK116 hb; have n1_ := kp BK117 hb; have n2_ := st HB hb; clear BK116; clear BK117; clear HB; have BK116 := n0_; have BK117 := n1_; have HB := n2_; clear n0_ n1_ n2_; (try clear hb); (try clear hb2); (try clear hk); (try clear hi)) | ((with_reducible refine gate_dst (N := 5) rfl ?_); refine box_s #[.int .i64 0, .int .i64 0] 41 ?_; intro gb120 hg w11 hbox hb; have n0_ := kp BK116 hb; have n1_ := kp BK117 hb; have n2_ := st HB hb; have n3_ := Aside0.mk (hbox); have n4_ := ge HB hg; have n5_ := ge HB hg; have n6_ := nl BK116 hg; have n7_ := nr BK116 hg; have n8_ := nl BK117 hg; have n9_ := nr BK117 hg; clear BK116; clear BK117; clear HB; have BK116 := n0_; have BK117 := n1_; have HB := n2_; have BK120 := n3_; have GW120 := n4_; have GE120 := n5_; have NB116_120 := n6_; have NB120_116 := n7_; have NB117_120 := n8_; have NB120_117 := n9_; clear n0_ n1_ n2_ n3_ n4_ n5_ n6_ n7_ n8_ n9_; clear hb hbox hg; have hnb12 := NB120_116.out; have hnc12 := NB116_120.out; have hnb13 := NB120_117.out; have hnc13 := NB117_120.out; have hcz14_0 : w11.cell? ⟨gb120, 0, none⟩ = some (.int .i64 0) := bc BK120 0; have hcz14_1 : w11.cell? ⟨gb120, 1, none⟩ = some (.int .i64 0) := bc BK120 1; have hfz14_0 := blk_frozen BK120.out 0; have hfz14_1 := blk_frozen BK120.out 1) | ((with_reducible refine gate_callee (f := 84) rfl ?_); refine goesL_ (some 11) rfl rfl Try.func84 (by kernel_rfl) rfl #[.agg #[.int .i64 t118, .int .i64 t119], .agg #[.int .i64 t118, .int .i64 t119]] rfl any_s ?_; (with_reducible refine (plane_Dot.calls t118 t119 t118 t119 t121 _ A4.out).mono ?_); rintro e w15 ⟨rfl, hb⟩; refine ⟨_, rfl, ?_⟩; have n0_ := kp BK116 hb; have n1_ := kp BK117 hb; have n2_ := Aside0.mk (blk_below (g := gb120) (o := .cells #[.int .i64 t118, .int .i64 t119] 41 (0, 0)) (by (with_reducible repeat (first | refine blk_drewN ?_ _ | refine blk_drew ?_ | refine blk_alloc ?_ _)); refine blk_put (cs := #[.int .i64 t118, .int .i64 0]) ?_ 1 _ rfl; (with_reducible repeat (first | refine blk_drewN ?_ _ | refine blk_drew ?_ | refine blk_alloc ?_ _)); refine blk_put (cs := #[.int .i64 0, .int .i64 0]) ?_ 0 _ rfl; (with_reducible repeat (first | refine blk_drewN ?_ _ | refine blk_drew ?_ | refine blk_alloc ?_ _)); exact BK120.out) hb); have n3_ := st HB hb; clear BK116; clear BK117; clear BK120; clear HB; have BK116 := n0_; have BK117 := n1_; have BK120 := n2_; have HB := n3_; clear n0_ n1_ n2_ n3_; (try clear hb); (try clear hb2); (try clear hk); (try clear hi)))
 go_ret
 exact ⟨by first | rfl | (simp [errW_none, errW_some] <;> rfl) | (simp [*, errW_none, errW_some] <;> rfl), by repeat (first | (with_reducible first | exact HB.out | apply below_alloc | apply pw_below_drewN | apply below_drew1 | refine below_set ?_ GE116.out | refine below_set ?_ GE117.out | refine below_set ?_ GE120.out) | exact HB.out)⟩

/-! ### num_Root: function 117 -/
def num_Root.f (a0 : Int) : Option (Int) := if a0 ≤ 9223372036854775807 then some (RootF.rootI a0) else none
theorem num_Root.calls (a0 : Int) (r : Int) (w : World) (h : num_Root.f a0 = some r) :
    Calls Try.prog 117 #[.int .i64 a0] w fun e w' => e = .returned (.int .i64 r) ∧ Below w.heap.size w w' := by
  unfold num_Root.f at h
  by_cases c : a0 ≤ 9223372036854775807
  · rw [if_pos c] at h; obtain rfl := Option.some.inj h
    exact (RootF.root_calls a0 w c).mono fun _ _ h => ⟨h.1, h.2.below⟩
  · rw [if_neg c] at h; exact absurd h (by simp)

/-! ### plane_Distance: function 90 -/
def plane_Distance.f (a0_0 : Int) (a0_1 : Int) (a1_0 : Int) (a1_1 : Int) : Option (Int × Int) := (plane_Square.f a0_0 a0_1 a1_0 a1_1).bind fun t124 => ((num_Root.f t124).bind fun t125 => (if (wrap64 (t125 * t125)) < t124 then (some (t125, wrap64 (t125 + 1))) else (some (t125, t125))))
set_option maxHeartbeats 8000000 in
set_option maxRecDepth 100000 in
theorem plane_Distance.calls (a0_0 : Int) (a0_1 : Int) (a1_0 : Int) (a1_1 : Int) (r1 : Int) (r2 : Int) (w : World) (h : plane_Distance.f a0_0 a0_1 a1_0 a1_1 = some (r1, r2)) :
    Calls Try.prog 90 #[.agg #[.int .i64 a0_0, .int .i64 a0_1], .agg #[.int .i64 a1_0, .int .i64 a1_1]] w fun e w' => e = .returned (.tuple #[.int .i64 r1, .int .i64 r2]) ∧ Below w.heap.size w w' := by
 have hu41 := Try.underlying41; have HB := Aside0.mk (Below.refl w.heap.size w); have H : ((plane_Square.f a0_0 a0_1 a1_0 a1_1).bind fun t124 => ((num_Root.f t124).bind fun t125 => (if (wrap64 (t125 * t125)) < t124 then (some (t125, wrap64 (t125 + 1))) else (some (t125, t125))))) = some (r1, r2) := h; clear h; replace H := Option.bind_eq_some_iff.mp H; obtain ⟨t124, A30, H⟩ := H; replace H : ((num_Root.f t124).bind fun t125 => (if (wrap64 (t125 * t125)) < t124 then (some (t125, wrap64 (t125 + 1))) else (some (t125, t125)))) = some (r1, r2) := H; have A3 := Aside0.mk A30; clear A30; replace H := Option.bind_eq_some_iff.mp H; obtain ⟨t125, A40, H⟩ := H; replace H : (if (wrap64 (t125 * t125)) < t124 then (some (t125, wrap64 (t125 + 1))) else (some (t125, t125))) = some (r1, r2) := H; have A4 := Aside0.mk A40; clear A40; refine Or.elim (Classical.em ((wrap64 (t125 * t125)) < t124)) (fun c5 => ?p2_) (fun c5 => ?n2_)
 case' p2_ =>
  rw [if_pos c5] at H; have c5b0 : decide ((wrap64 (t125 * t125)) < t124) = true := decide_eq_true c5; clear c5; simp only [Option.some.injEq, Prod.mk.injEq] at H; obtain ⟨rfl, rfl⟩ := H
 case' n2_ =>
  rw [if_neg c5] at H; have c5b0 : decide ((wrap64 (t125 * t125)) < t124) = false := decide_eq_false c5; clear c5; simp only [Option.some.injEq, Prod.mk.injEq] at H; obtain ⟨rfl, rfl⟩ := H
 all_goals
  go_enter Try.func90, Try.ntmps90
  go_wp2_with (first | ((with_reducible refine gate_dst (N := 2) rfl ?_); refine box_s #[.int .i64 a0_0, .int .i64 a0_1] 41 ?_; intro gb122 hg wx6c1b1 hbox hb; have n0_ := st HB hb; have n1_ := Aside0.mk (hbox); have n2_ := ge HB hg; have n3_ := ge HB hg; clear HB; have HB := n0_; have BK122 := n1_; have GW122 := n2_; have GE122 := n3_; clear n0_ n1_ n2_ n3_; clear hb hbox hg) | ((with_reducible refine gate_dst (N := 3) rfl ?_); refine box_s #[.int .i64 a1_0, .int .i64 a1_1] 41 ?_; intro gb123 hg wx17e91 hbox hb; have n0_ := kp BK122 hb; have n1_ := st HB hb; have n2_ := Aside0.mk (hbox); have n3_ := ge HB hg; have n4_ := ge HB hg; have n5_ := nl BK122 hg; have n6_ := nr BK122 hg; clear BK122; clear HB; have BK122 := n0_; have HB := n1_; have BK123 := n2_; have GW123 := n3_; have GE123 := n4_; have NB122_123 := n5_; have NB123_122 := n6_; clear n0_ n1_ n2_ n3_ n4_ n5_ n6_; clear hb hbox hg; have hnbx17e91 := NB122_123.out; have hncx17e91 := NB123_122.out; have hczx17e91 : wx17e91.cell? ⟨gb122, 0, none⟩ = some (.int .i64 a0_0) := bc BK122 0; have hczx17e92 : wx17e91.cell? ⟨gb122, 1, none⟩ = some (.int .i64 a0_1) := bc BK122 1; have hfzx17e91 := blk_frozen BK122.out 0; have hfzx17e92 := blk_frozen BK122.out 1; have hczx17e93 : wx17e91.cell? ⟨gb123, 0, none⟩ = some (.int .i64 a1_0) := bc BK123 0; have hczx17e94 : wx17e91.cell? ⟨gb123, 1, none⟩ = some (.int .i64 a1_1) := bc BK123 1; have hfzx17e93 := blk_frozen BK123.out 0; have hfzx17e94 := blk_frozen BK123.out 1) | ((with_reducible refine gate_callee (f := 104) rfl ?_); refine goesL_ (some 10) rfl rfl Try.func104 (by kernel_rfl) rfl #[.agg #[.int .i64 a0_0, .int .i64 a0_1], .agg #[.int .i64 a1_0, .int .i64 a1_1]] rfl any_s ?_; (with_reducible refine (plane_Square.calls a0_0 a0_1 a1_0 a1_1 t124 _ A3.out).mono ?_); rintro e wx70611 ⟨rfl, hb⟩; refine ⟨_, rfl, ?_⟩; have n0_ := kp BK122 hb; have n1_ := kp BK123 hb; have n2_ := st HB hb; clear BK122; clear BK123; clear HB; have BK122 := n0_; have BK123 := n1_; have HB := n2_; clear n0_ n1_ n2_; (try clear hb); (try clear hb2); (try clear hk); (try clear hi)) | ((with_reducible refine gate_callee (f := 117) rfl ?_); refine goesL_ (some 12) rfl rfl Try.func117 (by kernel_rfl) rfl #[.int .i64 t124] rfl any_s ?_; (with_reducible refine (num_Root.calls t124 t125 _ A4.out).mono ?_); rintro e wxcede1 ⟨rfl, hb⟩; refine ⟨_, rfl, ?_⟩; have n0_ := kp BK122 hb; have n1_ := kp BK123 hb; have n2_ := st HB hb; clear BK122; clear BK123; clear HB; have BK122 := n0_; have BK123 := n1_; have HB := n2_; clear n0_ n1_ n2_; (try clear hb); (try clear hb2); (try clear hk); (try clear hi)))
  go_ret2
  exact ⟨by first | rfl | (simp [errW_none, errW_some] <;> rfl) | (simp [*, errW_none, errW_some] <;> rfl), by repeat (first | (with_reducible first | exact HB.out | apply below_alloc | apply pw_below_drewN | apply below_drew1 | refine below_set ?_ GE122.out | refine below_set ?_ GE123.out) | exact HB.out)⟩

end Go.Proofs.Ythghilclgobpbaa.PProbeAll
