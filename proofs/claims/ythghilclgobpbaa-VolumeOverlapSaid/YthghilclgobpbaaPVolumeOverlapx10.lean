/- Made by a program of this session (wip/tools/myprint.py, over the kit's printer): that the Go functions answer as the Lean functions printed beside them. -/
import Derived.Test.YthghilclgobpbaaTSq2
import Derived.Test.YthghilclgobpbaaPVolumeOverlapx0
import Derived.Test.YthghilclgobpbaaPVolumeOverlapx1
namespace Go.Proofs.Ythghilclgobpbaa.PVolumeOverlap
open Go.RowKit Go.Proofs.YthghilclgobpbaaW.PrintWords Go.Proofs.YthghilclgobpbaaW.PrintLast Go.Proofs.YthghilclgobpbaaW.PrintMore
attribute [local go_sem] max2_int min2_int max_two min_two max_three min_three max_four min_four   -- for this text's walks alone
set_option linter.unusedVariables false
set_option linter.unusedSimpArgs false

attribute [local go_sem high] eqA41
/-! ### polygon_same: function 36 -/
mutual
def polygon_same.l0 : Nat → List (S41) → List (S41) → List (S41) → Int → Int → Option (Bool)
  | 0, _, _, _, _, _ => none
  | k + 1, x0, x1, x13, x14, x15 => if x15 < x14 then (if 0 ≤ x15 then (if x15 < (x13.length : Int) then (if 0 < (x0.length : Int) then (if (((rd_T41 x13 x15).f0) == ((rd_T41 x0 0).f0) && (((rd_T41 x13 x15).f1) == ((rd_T41 x0 0).f1))) = true then (polygon_same.l1 k x0 x1 x15 (x0.length : Int) 0) else (polygon_same.l0 k x0 x1 x13 x14 (wrap64 (x15 + 1)))) else (none)) else (none)) else (none)) else (some false)
def polygon_same.l1 : Nat → List (S41) → List (S41) → Int → Int → Int → Option (Bool)
  | 0, _, _, _, _, _ => none
  | k + 1, x0, x1, x5, x26, x27 => if x27 < x26 then (if 0 ≤ x27 then (if x27 < (x0.length : Int) then (if (x1.length : Int) = 0 then (none) else (if 0 ≤ (Int.tmod (wrap64 (x5 + x27)) (x1.length : Int)) then (if (Int.tmod (wrap64 (x5 + x27)) (x1.length : Int)) < (x1.length : Int) then (if (!(((rd_T41 x0 x27).f0) == ((rd_T41 x1 (Int.tmod (wrap64 (x5 + x27)) (x1.length : Int))).f0)) || (!(((rd_T41 x0 x27).f1) == ((rd_T41 x1 (Int.tmod (wrap64 (x5 + x27)) (x1.length : Int))).f1)))) = true then (some false) else (polygon_same.l1 k x0 x1 x5 x26 (wrap64 (x27 + 1)))) else (none)) else (none))) else (none)) else (none)) else (some true)
end
def polygon_same.f (k : Nat) (l0 : List (S41)) (l1 : List (S41)) : Option (Bool) := if (l0.length : Int) = (l1.length : Int) then (polygon_same.l0 k l0 l1 l1 (l1.length : Int) 0) else (some false)
theorem polygon_same.mono_l : ∀ k, (∀ y0 y1 y2 y3 y4, LeO (polygon_same.l0 k y0 y1 y2 y3 y4) (polygon_same.l0 (k + 1) y0 y1 y2 y3 y4)) ∧ (∀ y0 y1 y2 y3 y4, LeO (polygon_same.l1 k y0 y1 y2 y3 y4) (polygon_same.l1 (k + 1) y0 y1 y2 y3 y4))
  | 0 => ⟨fun _ _ _ _ _ r h => by simp [polygon_same.l0] at h, fun _ _ _ _ _ r h => by simp [polygon_same.l1] at h⟩
  | k + 1 => by
    obtain ⟨ih0, ih1⟩ := polygon_same.mono_l k; refine ⟨?_, ?_⟩
    · intro y0 y1 y2 y3 y4; unfold polygon_same.l0
      repeat' first
      | (with_reducible exact ih0 _ _ _ _ _)
      | (with_reducible exact ih1 _ _ _ _ _)
      | (with_reducible exact LeO.refl _)
      | (with_reducible exact LeO.none _)
      | (with_reducible refine LeO.ite ?_ ?_)
      | (with_reducible refine LeO.bind ?_ (fun _ => ?_))
      | exact ih0 _ _ _ _ _
      | exact ih1 _ _ _ _ _
      | exact LeO.none _
      | refine LeO.ite ?_ ?_
      | refine LeO.bind ?_ (fun _ => ?_)
    · intro y0 y1 y2 y3 y4; unfold polygon_same.l1
      repeat' first
      | (with_reducible exact ih0 _ _ _ _ _)
      | (with_reducible exact ih1 _ _ _ _ _)
      | (with_reducible exact LeO.refl _)
      | (with_reducible exact LeO.none _)
      | (with_reducible refine LeO.ite ?_ ?_)
      | (with_reducible refine LeO.bind ?_ (fun _ => ?_))
      | exact ih0 _ _ _ _ _
      | exact ih1 _ _ _ _ _
      | exact LeO.none _
      | refine LeO.ite ?_ ?_
      | refine LeO.bind ?_ (fun _ => ?_)
theorem polygon_same.mono : ∀ a0 a1 k, LeO (polygon_same.f k a0 a1) (polygon_same.f (k + 1) a0 a1) := by
  intro a0 a1 k; obtain ⟨ih0, ih1⟩ := polygon_same.mono_l k; unfold polygon_same.f
  repeat' first
      | (with_reducible exact ih0 _ _ _ _ _)
      | (with_reducible exact ih1 _ _ _ _ _)
      | (with_reducible exact LeO.refl _)
      | (with_reducible exact LeO.none _)
      | (with_reducible refine LeO.ite ?_ ?_)
      | (with_reducible refine LeO.bind ?_ (fun _ => ?_))
      | exact ih0 _ _ _ _ _
      | exact ih1 _ _ _ _ _
      | exact LeO.none _
      | refine LeO.ite ?_ ?_
      | refine LeO.bind ?_ (fun _ => ?_)
set_option maxHeartbeats 8000000 in
set_option maxRecDepth 100000 in
theorem polygon_same.calls (k : Nat) (A0 : Option Addr) (c0 : Nat) (l0 : List (S41)) (A1 : Option Addr) (c1 : Nat) (l1 : List (S41)) (r : Bool) (w : World) (hr0 : Kd.C k41 w A0 l0.length l0) (hc0 : l0.length ≤ c0) (hr1 : Kd.C k41 w A1 l1.length l1) (hc1 : l1.length ≤ c1) (h : polygon_same.f k l0 l1 = some r) :
    Calls Try.prog 36 #[.slice A0 l0.length c0, .slice A1 l1.length c1] w fun e w' => e = .returned (.bool r) ∧ Below w.heap.size w w' := by
 have hu41 := Try.underlying41; have HR0 := Aside0.mk hr0; have HC0 := Aside0.mk hc0; clear hr0 hc0; have HR1 := Aside0.mk hr1; have HC1 := Aside0.mk hc1; clear hr1 hc1; have HB := Aside0.mk (Below.refl w.heap.size w); have H : (if (l0.length : Int) = (l1.length : Int) then (polygon_same.l0 k l0 l1 l1 (l1.length : Int) 0) else (some false)) = some r := h; clear h
 by_cases c3 : (l0.length : Int) = (l1.length : Int)
 · rw [if_pos c3] at H; have c3b0 : ((l0.length : Int) == (l1.length : Int)) = true := beq_iff_eq.mpr c3; have c3b1 : ((l0.length : Int) != (l1.length : Int)) = false := bne_eq_false_iff_eq.mpr c3
   have c3b2 : (l0.length == l1.length) = true := by first | simpa using c3 | (simp at c3 ⊢; omega)
   clear c3; have H' := Aside0.mk H; clear H; go_enter Try.func36, Try.ntmps36; go_wp2
   repeat (go_quiet (fail); try go_wp2)
   go_loopg [15] k (fun kq v15 w' => ∃ (x15_1 : Int), v15 = .int .i64 x15_1 ∧ Aside0 (polygon_same.l0 kq l0 l1 l1 (l1.length : Int) x15_1 = some r) ∧ Aside0 (kq ≤ k) ∧ Aside0 (Below w.heap.size w w'))
   case atStart => exact ⟨(0), (by first | rfl | (simp; done) | (simp [*]; done)), H', ⟨Nat.le_refl _⟩, ⟨by repeat (first | (with_reducible first | exact HB.out | apply below_alloc | apply pw_below_drewN | apply below_drew1) | exact HB.out)⟩⟩
   case round =>
    clear H'
    (try clear c1); (try clear p2); (try clear c3); (try clear c3b0); (try clear c3b1); (try clear c3b2)
    obtain ⟨x15_1, rfl, HA, HK1, HB⟩ := hrel
    cases gk with
    | zero => exact absurd HA.out (by simp [polygon_same.l0])
    | succ k1 =>
     have H := HA.out; clear HA; simp only [polygon_same.l0] at H; refine Or.elim (Classical.em (x15_1 < (l1.length : Int))) (fun c4 => ?p2_) (fun c4 => ?n2_)
     case' p2_ =>
      rw [if_pos c4] at H; have c4b0 : decide (x15_1 < (l1.length : Int)) = true := decide_eq_true c4; clear c4; refine Or.elim (Classical.em (0 ≤ x15_1)) (fun c5 => ?p3_) (fun c5 => ?n3_)
      case' p3_ =>
       rw [if_pos c5] at H; have c5b0 : decide (0 ≤ x15_1) = true := decide_eq_true c5; clear c5; refine Or.elim (Classical.em (x15_1 < (l1.length : Int))) (fun c6 => ?p4_) (fun c6 => ?n4_)
       case' p4_ =>
        rw [if_pos c6] at H; have c6b0 : decide (x15_1 < (l1.length : Int)) = true := decide_eq_true c6; clear c6; refine Or.elim (Classical.em (0 < (l0.length : Int))) (fun c7 => ?p5_) (fun c7 => ?n5_)
        case' p5_ =>
         rw [if_pos c7] at H; have c7b0 : decide (0 < (l0.length : Int)) = true := decide_eq_true c7; have c7b1 : decide (0 < l0.length) = true := decide_eq_true (by omega); clear c7; refine Or.elim (Classical.em ((((rd_T41 l1 x15_1).f0) == ((rd_T41 l0 0).f0) && (((rd_T41 l1 x15_1).f1) == ((rd_T41 l0 0).f1))) = true)) (fun c8 => ?p6_) (fun c8 => ?n6_)
         case' p6_ =>
          rw [if_pos c8] at H; have c8b0 : (((rd_T41 l1 x15_1).f0) == ((rd_T41 l0 0).f0) && (((rd_T41 l1 x15_1).f1) == ((rd_T41 l0 0).f1))) = true := c8
          (try (have c8b1 : decide (((rd_T41 l1 x15_1).f0) = ((rd_T41 l0 0).f0) && (((rd_T41 l1 x15_1).f1) == ((rd_T41 l0 0).f1))) = true := by simpa using c8))
          (try (have c8b2 : (((rd_T41 l1 x15_1).f0) == ((rd_T41 l0 0).f0) && (((rd_T41 l1 x15_1).f1) == ((rd_T41 l0 0).f1))) = true := by simpa using c8))
          clear c8; have hm1_0 := Aside0.mk trivial
         case' n6_ =>
          rw [if_neg c8] at H
          have c8b0 : (((rd_T41 l1 x15_1).f0) == ((rd_T41 l0 0).f0) && (((rd_T41 l1 x15_1).f1) == ((rd_T41 l0 0).f1))) = false := by simpa using c8
          (try (have c8b1 : decide (((rd_T41 l1 x15_1).f0) = ((rd_T41 l0 0).f0) && (((rd_T41 l1 x15_1).f1) == ((rd_T41 l0 0).f1))) = false := by simpa using c8))
          (try (have c8b2 : (((rd_T41 l1 x15_1).f0) == ((rd_T41 l0 0).f0) && (((rd_T41 l1 x15_1).f1) == ((rd_T41 l0 0).f1))) = false := by simpa using c8))
          (try (have c8b3 : ¬ (((rd_T41 l1 x15_1).f0) = ((rd_T41 l0 0).f0) && (((rd_T41 l1 x15_1).f1) == ((rd_T41 l0 0).f1))) := by simpa using c8))
          clear c8; have hm1_1 := Aside0.mk trivial
        case' n5_ =>
         rw [if_neg c7] at H; exact absurd H (by simp)
       case' n4_ =>
        rw [if_neg c6] at H; exact absurd H (by simp)
      case' n3_ =>
       rw [if_neg c5] at H; exact absurd H (by simp)
     case' n2_ =>
      rw [if_neg c4] at H; have c4b0 : decide (x15_1 < (l1.length : Int)) = false := decide_eq_false c4; clear c4; have hm1_2 := Aside0.mk trivial
     all_goals
      first
       | (first | (have _hm := hm1_0) | (have _hm := hm1_1))
         have H' := Aside0.mk H; clear H
         have p188 : 0 ≤ (x15_1 : Int) := of_decide_eq_true (by first | (with_reducible assumption) | assumption)
         have q188 : x15_1 < (l1.length : Int) := of_decide_eq_true (by first | (with_reducible assumption) | assumption)
         obtain ⟨ad188, e188, hx188_0, hx188_1⟩ := at_T41 HR1.out x15_1 p188 q188; cases e188; replace hx188_0 := cl HB hx188_0; replace hx188_1 := cl HB hx188_1; replace p188 := eq_true p188; replace q188 := eq_true q188
         go_wp2_with (first | ((with_reducible refine gate_dst (N := 6) rfl ?_); refine box_s #[.int .i64 0, .int .i64 0] 41 ?_; intro gb189 hg wxc7051 hbox hb; have n0_ := st HB hb; have n1_ := Aside0.mk (hbox); have n2_ := ge HB hg; have n3_ := ge HB hg; clear HB; have HB := n0_; have BK189 := n1_; have GW189 := n2_; have GE189 := n3_; clear n0_ n1_ n2_ n3_; clear hb hbox hg; have hczxc7051 : wxc7051.cell? ⟨gb189, 0, none⟩ = some (.int .i64 0) := bc BK189 0; have hczxc7052 : wxc7051.cell? ⟨gb189, 1, none⟩ = some (.int .i64 0) := bc BK189 1; have hfzxc7051 := blk_frozen BK189.out 0; have hfzxc7052 := blk_frozen BK189.out 1; have p190 : 0 ≤ (0 : Int) := (by omega); have q190 : 0 < (l0.length : Int) := of_decide_eq_true (by first | (with_reducible assumption) | assumption); obtain ⟨ad190, e190, hx190_0, hx190_1⟩ := at_T41 HR0.out 0 p190 q190; cases e190; have qi190 : (0 < l0.length) = True := eq_true (by omega); (try rw [show ((0 : Int)).toNat = 0 from rfl] at hx190_0); (try rw [show 0 * 2 = 0 from rfl] at hx190_0); (try rw [Addr.add_zero'] at hx190_0); (try rw [show ((0 : Int)).toNat = 0 from rfl] at hx190_1); (try rw [show 0 * 2 = 0 from rfl] at hx190_1); (try rw [Addr.add_zero'] at hx190_1); have hn190_0 : ad190.block ≠ gb189 := Nat.ne_of_lt (Nat.lt_of_lt_of_le (by have := World.block_lt_of_cell? _ _ hx190_0; first | rwa [add_block] at this | exact this) GW189.out); have hn190_1 : ad190.block ≠ gb189 := Nat.ne_of_lt (Nat.lt_of_lt_of_le (by have := World.block_lt_of_cell? _ _ hx190_0; first | rwa [add_block] at this | exact this) GW189.out); replace hx190_0 := cl HB hx190_0; replace hx190_1 := cl HB hx190_1; replace hx190_0 := (cell_far (p := ⟨gb189, 0, none⟩) (by first | (rw [add_block]; exact hn190_0) | (show (Addr.add _ _).block ≠ _; rw [add_block]; exact hn190_0) | exact hn190_0) (.int .i64 ((rd_T41 l1 x15_1).f0))).trans hx190_0; replace hx190_1 := (cell_far (p := ⟨gb189, 0, none⟩) (by first | (rw [add_block]; exact hn190_0) | (show (Addr.add _ _).block ≠ _; rw [add_block]; exact hn190_0) | exact hn190_0) (.int .i64 ((rd_T41 l1 x15_1).f0))).trans hx190_1; replace hx190_0 := (cell_far (p := ⟨gb189, 1, none⟩) (by first | (rw [add_block]; exact hn190_1) | (show (Addr.add _ _).block ≠ _; rw [add_block]; exact hn190_1) | exact hn190_1) (.int .i64 ((rd_T41 l1 x15_1).f1))).trans hx190_0; replace hx190_1 := (cell_far (p := ⟨gb189, 1, none⟩) (by first | (rw [add_block]; exact hn190_1) | (show (Addr.add _ _).block ≠ _; rw [add_block]; exact hn190_1) | exact hn190_1) (.int .i64 ((rd_T41 l1 x15_1).f1))).trans hx190_1; (try have hy190_0 := fun (n_ : Nat) => (show ((((wxc7051.drewN n_).setCell ⟨gb189, 0, none⟩ (.int .i64 ((rd_T41 l1 x15_1).f0))).setCell ⟨gb189, 1, none⟩ (.int .i64 ((rd_T41 l1 x15_1).f1)))).cell? _ = some _ from hx190_0)); (try have hy190_1 := fun (n_ : Nat) => (show ((((wxc7051.drewN n_).setCell ⟨gb189, 0, none⟩ (.int .i64 ((rd_T41 l1 x15_1).f0))).setCell ⟨gb189, 1, none⟩ (.int .i64 ((rd_T41 l1 x15_1).f1)))).cell? _ = some _ from hx190_1)); clear hn190_0; clear hn190_1; replace p190 := eq_true p190; replace q190 := eq_true q190))
         repeat (go_quiet (first | ((with_reducible refine gate_dst (N := 6) rfl ?_); refine box_s #[.int .i64 0, .int .i64 0] 41 ?_; intro gb189 hg wxc7051 hbox hb; have n0_ := st HB hb; have n1_ := Aside0.mk (hbox); have n2_ := ge HB hg; have n3_ := ge HB hg; clear HB; have HB := n0_; have BK189 := n1_; have GW189 := n2_; have GE189 := n3_; clear n0_ n1_ n2_ n3_; clear hb hbox hg; have hczxc7051 : wxc7051.cell? ⟨gb189, 0, none⟩ = some (.int .i64 0) := bc BK189 0; have hczxc7052 : wxc7051.cell? ⟨gb189, 1, none⟩ = some (.int .i64 0) := bc BK189 1; have hfzxc7051 := blk_frozen BK189.out 0; have hfzxc7052 := blk_frozen BK189.out 1; have p190 : 0 ≤ (0 : Int) := (by omega); have q190 : 0 < (l0.length : Int) := of_decide_eq_true (by first | (with_reducible assumption) | assumption); obtain ⟨ad190, e190, hx190_0, hx190_1⟩ := at_T41 HR0.out 0 p190 q190; cases e190; have qi190 : (0 < l0.length) = True := eq_true (by omega); (try rw [show ((0 : Int)).toNat = 0 from rfl] at hx190_0); (try rw [show 0 * 2 = 0 from rfl] at hx190_0); (try rw [Addr.add_zero'] at hx190_0); (try rw [show ((0 : Int)).toNat = 0 from rfl] at hx190_1); (try rw [show 0 * 2 = 0 from rfl] at hx190_1); (try rw [Addr.add_zero'] at hx190_1); have hn190_0 : ad190.block ≠ gb189 := Nat.ne_of_lt (Nat.lt_of_lt_of_le (by have := World.block_lt_of_cell? _ _ hx190_0; first | rwa [add_block] at this | exact this) GW189.out); have hn190_1 : ad190.block ≠ gb189 := Nat.ne_of_lt (Nat.lt_of_lt_of_le (by have := World.block_lt_of_cell? _ _ hx190_0; first | rwa [add_block] at this | exact this) GW189.out); replace hx190_0 := cl HB hx190_0; replace hx190_1 := cl HB hx190_1; replace hx190_0 := (cell_far (p := ⟨gb189, 0, none⟩) (by first | (rw [add_block]; exact hn190_0) | (show (Addr.add _ _).block ≠ _; rw [add_block]; exact hn190_0) | exact hn190_0) (.int .i64 ((rd_T41 l1 x15_1).f0))).trans hx190_0; replace hx190_1 := (cell_far (p := ⟨gb189, 0, none⟩) (by first | (rw [add_block]; exact hn190_0) | (show (Addr.add _ _).block ≠ _; rw [add_block]; exact hn190_0) | exact hn190_0) (.int .i64 ((rd_T41 l1 x15_1).f0))).trans hx190_1; replace hx190_0 := (cell_far (p := ⟨gb189, 1, none⟩) (by first | (rw [add_block]; exact hn190_1) | (show (Addr.add _ _).block ≠ _; rw [add_block]; exact hn190_1) | exact hn190_1) (.int .i64 ((rd_T41 l1 x15_1).f1))).trans hx190_0; replace hx190_1 := (cell_far (p := ⟨gb189, 1, none⟩) (by first | (rw [add_block]; exact hn190_1) | (show (Addr.add _ _).block ≠ _; rw [add_block]; exact hn190_1) | exact hn190_1) (.int .i64 ((rd_T41 l1 x15_1).f1))).trans hx190_1; (try have hy190_0 := fun (n_ : Nat) => (show ((((wxc7051.drewN n_).setCell ⟨gb189, 0, none⟩ (.int .i64 ((rd_T41 l1 x15_1).f0))).setCell ⟨gb189, 1, none⟩ (.int .i64 ((rd_T41 l1 x15_1).f1)))).cell? _ = some _ from hx190_0)); (try have hy190_1 := fun (n_ : Nat) => (show ((((wxc7051.drewN n_).setCell ⟨gb189, 0, none⟩ (.int .i64 ((rd_T41 l1 x15_1).f0))).setCell ⟨gb189, 1, none⟩ (.int .i64 ((rd_T41 l1 x15_1).f1)))).cell? _ = some _ from hx190_1)); clear hn190_0; clear hn190_1; replace p190 := eq_true p190; replace q190 := eq_true q190)); try go_wp2_with (first | ((with_reducible refine gate_dst (N := 6) rfl ?_); refine box_s #[.int .i64 0, .int .i64 0] 41 ?_; intro gb189 hg wxc7051 hbox hb; have n0_ := st HB hb; have n1_ := Aside0.mk (hbox); have n2_ := ge HB hg; have n3_ := ge HB hg; clear HB; have HB := n0_; have BK189 := n1_; have GW189 := n2_; have GE189 := n3_; clear n0_ n1_ n2_ n3_; clear hb hbox hg; have hczxc7051 : wxc7051.cell? ⟨gb189, 0, none⟩ = some (.int .i64 0) := bc BK189 0; have hczxc7052 : wxc7051.cell? ⟨gb189, 1, none⟩ = some (.int .i64 0) := bc BK189 1; have hfzxc7051 := blk_frozen BK189.out 0; have hfzxc7052 := blk_frozen BK189.out 1; have p190 : 0 ≤ (0 : Int) := (by omega); have q190 : 0 < (l0.length : Int) := of_decide_eq_true (by first | (with_reducible assumption) | assumption); obtain ⟨ad190, e190, hx190_0, hx190_1⟩ := at_T41 HR0.out 0 p190 q190; cases e190; have qi190 : (0 < l0.length) = True := eq_true (by omega); (try rw [show ((0 : Int)).toNat = 0 from rfl] at hx190_0); (try rw [show 0 * 2 = 0 from rfl] at hx190_0); (try rw [Addr.add_zero'] at hx190_0); (try rw [show ((0 : Int)).toNat = 0 from rfl] at hx190_1); (try rw [show 0 * 2 = 0 from rfl] at hx190_1); (try rw [Addr.add_zero'] at hx190_1); have hn190_0 : ad190.block ≠ gb189 := Nat.ne_of_lt (Nat.lt_of_lt_of_le (by have := World.block_lt_of_cell? _ _ hx190_0; first | rwa [add_block] at this | exact this) GW189.out); have hn190_1 : ad190.block ≠ gb189 := Nat.ne_of_lt (Nat.lt_of_lt_of_le (by have := World.block_lt_of_cell? _ _ hx190_0; first | rwa [add_block] at this | exact this) GW189.out); replace hx190_0 := cl HB hx190_0; replace hx190_1 := cl HB hx190_1; replace hx190_0 := (cell_far (p := ⟨gb189, 0, none⟩) (by first | (rw [add_block]; exact hn190_0) | (show (Addr.add _ _).block ≠ _; rw [add_block]; exact hn190_0) | exact hn190_0) (.int .i64 ((rd_T41 l1 x15_1).f0))).trans hx190_0; replace hx190_1 := (cell_far (p := ⟨gb189, 0, none⟩) (by first | (rw [add_block]; exact hn190_0) | (show (Addr.add _ _).block ≠ _; rw [add_block]; exact hn190_0) | exact hn190_0) (.int .i64 ((rd_T41 l1 x15_1).f0))).trans hx190_1; replace hx190_0 := (cell_far (p := ⟨gb189, 1, none⟩) (by first | (rw [add_block]; exact hn190_1) | (show (Addr.add _ _).block ≠ _; rw [add_block]; exact hn190_1) | exact hn190_1) (.int .i64 ((rd_T41 l1 x15_1).f1))).trans hx190_0; replace hx190_1 := (cell_far (p := ⟨gb189, 1, none⟩) (by first | (rw [add_block]; exact hn190_1) | (show (Addr.add _ _).block ≠ _; rw [add_block]; exact hn190_1) | exact hn190_1) (.int .i64 ((rd_T41 l1 x15_1).f1))).trans hx190_1; (try have hy190_0 := fun (n_ : Nat) => (show ((((wxc7051.drewN n_).setCell ⟨gb189, 0, none⟩ (.int .i64 ((rd_T41 l1 x15_1).f0))).setCell ⟨gb189, 1, none⟩ (.int .i64 ((rd_T41 l1 x15_1).f1)))).cell? _ = some _ from hx190_0)); (try have hy190_1 := fun (n_ : Nat) => (show ((((wxc7051.drewN n_).setCell ⟨gb189, 0, none⟩ (.int .i64 ((rd_T41 l1 x15_1).f0))).setCell ⟨gb189, 1, none⟩ (.int .i64 ((rd_T41 l1 x15_1).f1)))).cell? _ = some _ from hx190_1)); clear hn190_0; clear hn190_1; replace p190 := eq_true p190; replace q190 := eq_true q190)))
         first
          | clear hm1_0; go_loopg [27] k1 (fun kq v27 w' => ∃ (x27_2 : Int), v27 = .int .i64 x27_2 ∧ Aside0 (polygon_same.l1 kq l0 l1 x15_1 (l0.length : Int) x27_2 = some r) ∧ Aside0 (kq ≤ k1) ∧ Aside0 (w'.heap[gb189]? = some (.cells #[.int .i64 ((rd_T41 l1 x15_1).f0), .int .i64 ((rd_T41 l1 x15_1).f1)] 41 (0, 0))) ∧ Aside0 (Below w.heap.size w w'))
            case atStart => exact ⟨(0), (by first | rfl | (simp; done) | (simp [*]; done)), H', ⟨Nat.le_refl _⟩, ⟨by (with_reducible repeat (first | refine blk_drewN ?_ _ | refine blk_drew ?_ | refine blk_alloc ?_ _)); refine blk_put (cs := #[.int .i64 ((rd_T41 l1 x15_1).f0), .int .i64 0]) ?_ 1 _ rfl; (with_reducible repeat (first | refine blk_drewN ?_ _ | refine blk_drew ?_ | refine blk_alloc ?_ _)); refine blk_put (cs := #[.int .i64 0, .int .i64 0]) ?_ 0 _ rfl; (with_reducible repeat (first | refine blk_drewN ?_ _ | refine blk_drew ?_ | refine blk_alloc ?_ _)); exact BK189.out⟩, ⟨by repeat (first | (with_reducible first | exact HB.out | apply below_alloc | apply pw_below_drewN | apply below_drew1 | refine below_set ?_ GE189.out) | exact HB.out)⟩⟩
            case round =>
             clear H'
             (try clear c1); (try clear p1); (try clear q1); (try clear hx1); (try clear qi1); (try clear p2); (try clear c3); (try clear c3b0); (try clear c3b1); (try clear c3b2); (try clear c4); (try clear c4b0); (try clear c5); (try clear c5b0); (try clear c6); (try clear c6b0); (try clear c7); (try clear c7b0); (try clear c7b1); (try clear c8); (try clear c8b0); (try clear c8b1); (try clear c8b2); (try clear hczxc7051); (try clear hczxc7052); (try clear hfzxc7051); (try clear hfzxc7052); (try clear hx188_0); (try clear hx188_1); (try clear hx190_0); (try clear hx190_1); (try clear p188); (try clear p190); (try clear p2); (try clear q188); (try clear q190)
             obtain ⟨x27_2, rfl, HA, HK2, BK189, HB⟩ := hrel
             cases gk with
             | zero => exact absurd HA.out (by simp [polygon_same.l1])
             | succ k2 =>
              have H := HA.out; clear HA; simp only [polygon_same.l1] at H; refine Or.elim (Classical.em (x27_2 < (l0.length : Int))) (fun c11 => ?p8_) (fun c11 => ?n8_)
              case' p8_ =>
               rw [if_pos c11] at H; have c11b0 : decide (x27_2 < (l0.length : Int)) = true := decide_eq_true c11; clear c11; refine Or.elim (Classical.em (0 ≤ x27_2)) (fun c12 => ?p9_) (fun c12 => ?n9_)
               case' p9_ =>
                rw [if_pos c12] at H; have c12b0 : decide (0 ≤ x27_2) = true := decide_eq_true c12; clear c12; refine Or.elim (Classical.em (x27_2 < (l0.length : Int))) (fun c13 => ?p10_) (fun c13 => ?n10_)
                case' p10_ =>
                 rw [if_pos c13] at H; have c13b0 : decide (x27_2 < (l0.length : Int)) = true := decide_eq_true c13; clear c13; refine Or.elim (Classical.em ((l1.length : Int) = 0)) (fun c14 => ?p11_) (fun c14 => ?n11_)
                 case' p11_ =>
                  rw [if_pos c14] at H; exact absurd H (by simp)
                 case' n11_ =>
                  rw [if_neg c14] at H; have c14b0 : ((l1.length : Int) == 0) = false := beq_eq_false_iff_ne.mpr c14; have c14b1 : ((l1.length : Int) != 0) = true := bne_iff_ne.mpr c14
                  have c14b2 : ¬ (l1 = []) := fun h_ => c14 (by rw [h_]; rfl)
                  obtain ⟨ji15, hji15⟩ : ∃ j_ : Int, (Int.tmod (wrap64 (x15_1 + x27_2)) (l1.length : Int)) = j_ := ⟨_, rfl⟩
                  replace H : (if 0 ≤ (ji15) then (if (ji15) < (l1.length : Int) then (if (!(((rd_T41 l0 x27_2).f0) == ((rd_T41 l1 (ji15)).f0)) || (!(((rd_T41 l0 x27_2).f1) == ((rd_T41 l1 (ji15)).f1)))) = true then (some false) else (polygon_same.l1 k2 l0 l1 x15_1 (l0.length : Int) (wrap64 (x27_2 + 1)))) else (none)) else (none)) = some r := by first | (rw [hji15] at H; exact H) | (simp only [hji15] at H ⊢; exact H)
                  refine Or.elim (Classical.em (0 ≤ (ji15))) (fun c16 => ?p12_) (fun c16 => ?n12_)
                  case' p12_ =>
                   rw [if_pos c16] at H; have c16b0 : decide (0 ≤ (ji15)) = true := decide_eq_true c16; clear c16; refine Or.elim (Classical.em ((ji15) < (l1.length : Int))) (fun c17 => ?p13_) (fun c17 => ?n13_)
                   case' p13_ =>
                    rw [if_pos c17] at H; have c17b0 : decide ((ji15) < (l1.length : Int)) = true := decide_eq_true c17; clear c17; refine Or.elim (Classical.em ((!(((rd_T41 l0 x27_2).f0) == ((rd_T41 l1 (ji15)).f0)) || (!(((rd_T41 l0 x27_2).f1) == ((rd_T41 l1 (ji15)).f1)))) = true)) (fun c18 => ?p14_) (fun c18 => ?n14_)
                    case' p14_ =>
                     rw [if_pos c18] at H; have c18b0 : (!(((rd_T41 l0 x27_2).f0) == ((rd_T41 l1 (ji15)).f0)) || (!(((rd_T41 l0 x27_2).f1) == ((rd_T41 l1 (ji15)).f1)))) = true := c18; clear c18; have hm7_0 := Aside0.mk trivial
                    case' n14_ =>
                     rw [if_neg c18] at H
                     have c18b0 : (!(((rd_T41 l0 x27_2).f0) == ((rd_T41 l1 (ji15)).f0)) || (!(((rd_T41 l0 x27_2).f1) == ((rd_T41 l1 (ji15)).f1)))) = false := by simpa using c18
                     clear c18; have hm7_1 := Aside0.mk trivial
                   case' n13_ =>
                    rw [if_neg c17] at H; exact absurd H (by simp)
                  case' n12_ =>
                   rw [if_neg c16] at H; exact absurd H (by simp)
                case' n10_ =>
                 rw [if_neg c13] at H; exact absurd H (by simp)
               case' n9_ =>
                rw [if_neg c12] at H; exact absurd H (by simp)
              case' n8_ =>
               rw [if_neg c11] at H; have c11b0 : decide (x27_2 < (l0.length : Int)) = false := decide_eq_false c11; clear c11; have hm7_2 := Aside0.mk trivial
              all_goals
               first
                | (first | (have _hm := hm7_0) | (have _hm := hm7_2))
                  obtain rfl := Option.some.inj H
                  first
                   | clear hm7_0
                     have p191 : 0 ≤ (x27_2 : Int) := of_decide_eq_true (by first | (with_reducible assumption) | assumption)
                     have q191 : x27_2 < (l0.length : Int) := of_decide_eq_true (by first | (with_reducible assumption) | assumption)
                     obtain ⟨ad191, e191, hx191_0, hx191_1⟩ := at_T41 HR0.out x27_2 p191 q191; obtain rfl : ad190 = ad191 := (by injection e191); replace hx191_0 := cl HB hx191_0; replace hx191_1 := cl HB hx191_1; replace p191 := eq_true p191; replace q191 := eq_true q191
                     have p192 : 0 ≤ ((ji15) : Int) := of_decide_eq_true (by first | (with_reducible assumption) | assumption)
                     have q192 : (ji15) < (l1.length : Int) := of_decide_eq_true (by first | (with_reducible assumption) | assumption)
                     obtain ⟨ad192, e192, hx192_0, hx192_1⟩ := at_T41 HR1.out (ji15) p192 q192; obtain rfl : ad188 = ad192 := (by injection e192); replace hx192_0 := cl HB hx192_0; replace hx192_1 := cl HB hx192_1; replace p192 := eq_true p192; replace q192 := eq_true q192; go_wp2
                     repeat (go_quiet (fail); try go_wp2)
                     go_ret
                     exact ⟨by first | rfl | (simp [errW_none, errW_some] <;> rfl) | (simp only [← hji15]; first | rfl | (simp [errW_none, errW_some] <;> rfl)) | (simp [*, errW_none, errW_some] <;> rfl), by repeat (first | (with_reducible first | exact HB.out | apply below_alloc | apply pw_below_drewN | apply below_drew1 | refine below_set ?_ GE189.out) | exact HB.out)⟩
                   | clear hm7_2; go_wp2
                     repeat (go_quiet (fail); try go_wp2)
                     go_ret
                     exact ⟨by first | rfl | (simp [errW_none, errW_some] <;> rfl) | (simp [*, errW_none, errW_some] <;> rfl), by repeat (first | (with_reducible first | exact HB.out | apply below_alloc | apply pw_below_drewN | apply below_drew1 | refine below_set ?_ GE189.out) | exact HB.out)⟩
                | clear hm7_1; have H' := Aside0.mk H; clear H
                  have p191 : 0 ≤ (x27_2 : Int) := of_decide_eq_true (by first | (with_reducible assumption) | assumption)
                  have q191 : x27_2 < (l0.length : Int) := of_decide_eq_true (by first | (with_reducible assumption) | assumption)
                  obtain ⟨ad191, e191, hx191_0, hx191_1⟩ := at_T41 HR0.out x27_2 p191 q191; obtain rfl : ad190 = ad191 := (by injection e191); replace hx191_0 := cl HB hx191_0; replace hx191_1 := cl HB hx191_1; replace p191 := eq_true p191; replace q191 := eq_true q191
                  have p192 : 0 ≤ ((ji15) : Int) := of_decide_eq_true (by first | (with_reducible assumption) | assumption)
                  have q192 : (ji15) < (l1.length : Int) := of_decide_eq_true (by first | (with_reducible assumption) | assumption)
                  obtain ⟨ad192, e192, hx192_0, hx192_1⟩ := at_T41 HR1.out (ji15) p192 q192; obtain rfl : ad188 = ad192 := (by injection e192); replace hx192_0 := cl HB hx192_0; replace hx192_1 := cl HB hx192_1; replace p192 := eq_true p192; replace q192 := eq_true q192; go_wp2
                  repeat (go_quiet (fail); try go_wp2)
                  first | go_roundg k2 | (subst hji15; go_roundg k2)
                  case measure => have := HK1.out; have := HK2.out; omega
                  case rel => exact ⟨(wrap64 (x27_2 + 1)), (by first | rfl | (simp; done) | (simp [*]; done)), H', ⟨by have := HK1.out; have := HK2.out; omega⟩, ⟨by (with_reducible repeat (first | refine blk_drewN ?_ _ | refine blk_drew ?_ | refine blk_alloc ?_ _)); exact BK189.out⟩, ⟨by repeat (first | (with_reducible first | exact HB.out | apply below_alloc | apply pw_below_drewN | apply below_drew1 | refine below_set ?_ GE189.out) | exact HB.out)⟩⟩
          | clear hm1_1; go_roundg k1
            case measure => have := HK1.out; omega
            case rel => exact ⟨(wrap64 (x15_1 + 1)), (by first | rfl | (simp; done) | (simp [*]; done)), H', ⟨by have := HK1.out; omega⟩, ⟨by repeat (first | (with_reducible first | exact HB.out | apply below_alloc | apply pw_below_drewN | apply below_drew1 | refine below_set ?_ GE189.out) | exact HB.out)⟩⟩
       | clear hm1_2; obtain rfl := Option.some.inj H; go_wp2
         repeat (go_quiet (fail); try go_wp2)
         go_ret
         exact ⟨by first | rfl | (simp [errW_none, errW_some] <;> rfl) | (simp [*, errW_none, errW_some] <;> rfl), by repeat (first | (with_reducible first | exact HB.out | apply below_alloc | apply pw_below_drewN | apply below_drew1) | exact HB.out)⟩
 · rw [if_neg c3] at H; have c3b0 : ((l0.length : Int) == (l1.length : Int)) = false := beq_eq_false_iff_ne.mpr c3; have c3b1 : ((l0.length : Int) != (l1.length : Int)) = true := bne_iff_ne.mpr c3
   have c3b2 : (l0.length == l1.length) = false := by first | simpa using c3 | (simp at c3 ⊢; omega)
   obtain rfl := Option.some.inj H; go_enter Try.func36, Try.ntmps36; go_wp2
   repeat (go_quiet (fail); try go_wp2)
   go_ret
   exact ⟨by first | rfl | (simp [errW_none, errW_some] <;> rfl) | (simp [*, errW_none, errW_some] <;> rfl), by repeat (first | (with_reducible first | exact HB.out | apply below_alloc | apply pw_below_drewN | apply below_drew1) | exact HB.out)⟩

end Go.Proofs.Ythghilclgobpbaa.PVolumeOverlap
