/- Made by a program of this session (wip/tools/myprint.py, over the kit's printer): that the Go functions answer as the Lean functions printed beside them. -/
import Derived.Test.YtbpbpojnfhhbjaaTSq2
import Derived.Test.YtbpbpojnfhhbjaaPRouteCrossedx0
import Derived.Test.YtbpbpojnfhhbjaaPRouteCrossedx10
namespace Go.Proofs.Ytbpbpojnfhhbjaa.PRouteCrossed
open Go.RowKit Go.Proofs.YtbpbpojnfhhbjaaW.PrintWords Go.Proofs.YtbpbpojnfhhbjaaW.PrintLast Go.Proofs.YtbpbpojnfhhbjaaW.PrintMore
attribute [local go_sem] max2_int min2_int max_two min_two max_three min_three max_four min_four   -- for this text's walks alone
set_option linter.unusedVariables false
set_option linter.unusedSimpArgs false

/-! ### polygon_locate: function 73 -/
mutual
def polygon_locate.l0 : Nat → List (S36) → Int → List (S36) → Int → Int → Int → Int → Option (Int)
  | 0, _, _, _, _, _, _, _ => none
  | k + 1, x0, x5, x10, x11, x12, x374000, x374001 => if x12 < x11 then (if 0 ≤ x12 then (if x12 < (x10.length : Int) then (if (x0.length : Int) = 0 then (none) else (if 0 ≤ (Int.tmod (wrap64 ((wrap64 (x12 + (x0.length : Int))) - 1)) (x0.length : Int)) then (if (Int.tmod (wrap64 ((wrap64 (x12 + (x0.length : Int))) - 1)) (x0.length : Int)) < (x0.length : Int) then ((plane_Turn.f ((rd_T36 x0 (Int.tmod (wrap64 ((wrap64 (x12 + (x0.length : Int))) - 1)) (x0.length : Int))).f0) ((rd_T36 x0 (Int.tmod (wrap64 ((wrap64 (x12 + (x0.length : Int))) - 1)) (x0.length : Int))).f1) ((rd_T36 x10 x12).f0) ((rd_T36 x10 x12).f1) x374000 x374001).bind fun t378 => (if t378 = 0 then ((polygon_on.f ((rd_T36 x0 (Int.tmod (wrap64 ((wrap64 (x12 + (x0.length : Int))) - 1)) (x0.length : Int))).f0) ((rd_T36 x0 (Int.tmod (wrap64 ((wrap64 (x12 + (x0.length : Int))) - 1)) (x0.length : Int))).f1) ((rd_T36 x10 x12).f0) ((rd_T36 x10 x12).f1) x374000 x374001).bind fun t379 => (polygon_locate.j1 k x0 x5 t378 x10 x11 x12 t379 x374000 x374001 ((rd_T36 x10 x12).f0) ((rd_T36 x10 x12).f1) ((rd_T36 x0 (Int.tmod (wrap64 ((wrap64 (x12 + (x0.length : Int))) - 1)) (x0.length : Int))).f0) ((rd_T36 x0 (Int.tmod (wrap64 ((wrap64 (x12 + (x0.length : Int))) - 1)) (x0.length : Int))).f1))) else (polygon_locate.j1 k x0 x5 t378 x10 x11 x12 false x374000 x374001 ((rd_T36 x10 x12).f0) ((rd_T36 x10 x12).f1) ((rd_T36 x0 (Int.tmod (wrap64 ((wrap64 (x12 + (x0.length : Int))) - 1)) (x0.length : Int))).f0) ((rd_T36 x0 (Int.tmod (wrap64 ((wrap64 (x12 + (x0.length : Int))) - 1)) (x0.length : Int))).f1)))) else (none)) else (none))) else (none)) else (none)) else (some x5)
def polygon_locate.j1 : Nat → List (S36) → Int → Int → List (S36) → Int → Int → Bool → Int → Int → Int → Int → Int → Int → Option (Int)
  | 0, _, _, _, _, _, _, _, _, _, _, _, _, _ => none
  | k + 1, x0, x5, x9, x10, x11, x12, x39, x374000, x374001, x376000, x376001, x378000, x378001 => if x39 = true then (some 0) else (if x378001 ≤ x374001 then (if x374001 < x376001 then (if x9 > 0 then (polygon_locate.l0 k x0 (wrap64 (-x5)) x10 x11 (wrap64 (x12 + 1)) x374000 x374001) else (if x376001 ≤ x374001 then (if x374001 < x378001 then (if x9 < 0 then (polygon_locate.l0 k x0 (wrap64 (-x5)) x10 x11 (wrap64 (x12 + 1)) x374000 x374001) else (polygon_locate.l0 k x0 x5 x10 x11 (wrap64 (x12 + 1)) x374000 x374001)) else (polygon_locate.l0 k x0 x5 x10 x11 (wrap64 (x12 + 1)) x374000 x374001)) else (polygon_locate.l0 k x0 x5 x10 x11 (wrap64 (x12 + 1)) x374000 x374001))) else (if x376001 ≤ x374001 then (if x374001 < x378001 then (if x9 < 0 then (polygon_locate.l0 k x0 (wrap64 (-x5)) x10 x11 (wrap64 (x12 + 1)) x374000 x374001) else (polygon_locate.l0 k x0 x5 x10 x11 (wrap64 (x12 + 1)) x374000 x374001)) else (polygon_locate.l0 k x0 x5 x10 x11 (wrap64 (x12 + 1)) x374000 x374001)) else (polygon_locate.l0 k x0 x5 x10 x11 (wrap64 (x12 + 1)) x374000 x374001))) else (if x376001 ≤ x374001 then (if x374001 < x378001 then (if x9 < 0 then (polygon_locate.l0 k x0 (wrap64 (-x5)) x10 x11 (wrap64 (x12 + 1)) x374000 x374001) else (polygon_locate.l0 k x0 x5 x10 x11 (wrap64 (x12 + 1)) x374000 x374001)) else (polygon_locate.l0 k x0 x5 x10 x11 (wrap64 (x12 + 1)) x374000 x374001)) else (polygon_locate.l0 k x0 x5 x10 x11 (wrap64 (x12 + 1)) x374000 x374001)))
end
def polygon_locate.f (k : Nat) (l0 : List (S36)) (a1_0 : Int) (a1_1 : Int) : Option (Int) := polygon_locate.l0 k l0 (-1) l0 (l0.length : Int) 0 a1_0 a1_1
theorem polygon_locate.mono_l : ∀ k, (∀ y0 y1 y2 y3 y4 y5 y6, LeO (polygon_locate.l0 k y0 y1 y2 y3 y4 y5 y6) (polygon_locate.l0 (k + 1) y0 y1 y2 y3 y4 y5 y6)) ∧ (∀ y0 y1 y2 y3 y4 y5 y6 y7 y8 y9 y10 y11 y12, LeO (polygon_locate.j1 k y0 y1 y2 y3 y4 y5 y6 y7 y8 y9 y10 y11 y12) (polygon_locate.j1 (k + 1) y0 y1 y2 y3 y4 y5 y6 y7 y8 y9 y10 y11 y12))
  | 0 => ⟨fun _ _ _ _ _ _ _ r h => by simp [polygon_locate.l0] at h, fun _ _ _ _ _ _ _ _ _ _ _ _ _ r h => by simp [polygon_locate.j1] at h⟩
  | k + 1 => by
    obtain ⟨ih0, ih1⟩ := polygon_locate.mono_l k; refine ⟨?_, ?_⟩
    · intro y0 y1 y2 y3 y4 y5 y6; unfold polygon_locate.l0
      repeat' first
      | (with_reducible exact ih0 _ _ _ _ _ _ _)
      | (with_reducible exact ih1 _ _ _ _ _ _ _ _ _ _ _ _ _)
      | (with_reducible exact LeO.refl _)
      | (with_reducible exact LeO.none _)
      | (with_reducible refine LeO.ite ?_ ?_)
      | (with_reducible refine LeO.bind ?_ (fun _ => ?_))
      | exact ih0 _ _ _ _ _ _ _
      | exact ih1 _ _ _ _ _ _ _ _ _ _ _ _ _
      | exact LeO.none _
      | refine LeO.ite ?_ ?_
      | refine LeO.bind ?_ (fun _ => ?_)
    · intro y0 y1 y2 y3 y4 y5 y6 y7 y8 y9 y10 y11 y12; unfold polygon_locate.j1
      repeat' first
      | (with_reducible exact ih0 _ _ _ _ _ _ _)
      | (with_reducible exact ih1 _ _ _ _ _ _ _ _ _ _ _ _ _)
      | (with_reducible exact LeO.refl _)
      | (with_reducible exact LeO.none _)
      | (with_reducible refine LeO.ite ?_ ?_)
      | (with_reducible refine LeO.bind ?_ (fun _ => ?_))
      | exact ih0 _ _ _ _ _ _ _
      | exact ih1 _ _ _ _ _ _ _ _ _ _ _ _ _
      | exact LeO.none _
      | refine LeO.ite ?_ ?_
      | refine LeO.bind ?_ (fun _ => ?_)
theorem polygon_locate.mono : ∀ a0 a1 a2 k, LeO (polygon_locate.f k a0 a1 a2) (polygon_locate.f (k + 1) a0 a1 a2) := by
  intro a0 a1 a2 k; obtain ⟨ih0, ih1⟩ := polygon_locate.mono_l k; unfold polygon_locate.f
  repeat' first
      | (with_reducible exact ih0 _ _ _ _ _ _ _)
      | (with_reducible exact ih1 _ _ _ _ _ _ _ _ _ _ _ _ _)
      | (with_reducible exact LeO.refl _)
      | (with_reducible exact LeO.none _)
      | (with_reducible refine LeO.ite ?_ ?_)
      | (with_reducible refine LeO.bind ?_ (fun _ => ?_))
      | exact ih0 _ _ _ _ _ _ _
      | exact ih1 _ _ _ _ _ _ _ _ _ _ _ _ _
      | exact LeO.none _
      | refine LeO.ite ?_ ?_
      | refine LeO.bind ?_ (fun _ => ?_)
set_option maxHeartbeats 8000000 in
set_option maxRecDepth 100000 in
theorem polygon_locate.calls (k : Nat) (A0 : Option Addr) (c0 : Nat) (l0 : List (S36)) (a1_0 : Int) (a1_1 : Int) (r : Int) (w : World) (hr0 : Kd.C k36 w A0 l0.length l0) (hc0 : l0.length ≤ c0) (h : polygon_locate.f k l0 a1_0 a1_1 = some r) :
    Calls Try.prog 73 #[.slice A0 l0.length c0, .agg #[.int .i64 a1_0, .int .i64 a1_1]] w fun e w' => e = .returned (.int .i64 r) ∧ Below w.heap.size w w' := by
 have hu36 := Try.underlying36; have HR0 := Aside0.mk hr0; have HC0 := Aside0.mk hc0; clear hr0 hc0; have HB := Aside0.mk (Below.refl w.heap.size w); have H : (polygon_locate.l0 k l0 (-1) l0 (l0.length : Int) 0 a1_0 a1_1) = some r := h; clear h; have H' := Aside0.mk H; clear H; go_enter Try.func73, Try.ntmps73
 go_wp2_with (first | ((with_reducible refine gate_dst (N := 3) rfl ?_); refine box_s #[.int .i64 a1_0, .int .i64 a1_1] 36 ?_; intro gb373 hg w3 hbox hb; have n0_ := st HB hb; have n1_ := Aside0.mk (hbox); have n2_ := ge HB hg; have n3_ := ge HB hg; clear HB; have HB := n0_; have BK373 := n1_; have GW373 := n2_; have GE373 := n3_; clear n0_ n1_ n2_ n3_; clear hb hbox hg))
 go_loopg [5, 12] k (fun kq v5 v12 w' => ∃ (x5_1 : Int) (x12_1 : Int), v5 = .int .i64 x5_1 ∧ v12 = .int .i64 x12_1 ∧ Aside0 (polygon_locate.l0 kq l0 x5_1 l0 (l0.length : Int) x12_1 a1_0 a1_1 = some r) ∧ Aside0 (kq ≤ k) ∧ Aside0 (w'.heap[gb373]? = some (.cells #[.int .i64 a1_0, .int .i64 a1_1] 36 (0, 0))) ∧ Aside0 (Below w.heap.size w w'))
 case atStart => exact ⟨((-1)), (0), (by first | rfl | (simp; done) | (simp [*]; done)), (by first | rfl | (simp; done) | (simp [*]; done)), H', ⟨Nat.le_refl _⟩, ⟨by (with_reducible repeat (first | refine blk_drewN ?_ _ | refine blk_drew ?_ | refine blk_alloc ?_ _)); exact BK373.out⟩, ⟨by repeat (first | (with_reducible first | exact HB.out | apply below_alloc | apply pw_below_drewN | apply below_drew1 | refine below_set ?_ GE373.out) | exact HB.out)⟩⟩
 case round =>
  clear H'
  (try clear p2)
  obtain ⟨x5_1, x12_1, rfl, rfl, HA, HK1, BK373, HB⟩ := hrel
  cases gk with
  | zero => exact absurd HA.out (by simp [polygon_locate.l0])
  | succ k1 =>
   have H := HA.out; clear HA; simp only [polygon_locate.l0] at H
   by_cases c4 : x12_1 < (l0.length : Int)
   · rw [if_pos c4] at H; have c4b0 : decide (x12_1 < (l0.length : Int)) = true := decide_eq_true c4; clear c4
     by_cases c5 : 0 ≤ x12_1
     · rw [if_pos c5] at H; have c5b0 : decide (0 ≤ x12_1) = true := decide_eq_true c5; clear c5
       by_cases c6 : x12_1 < (l0.length : Int)
       · rw [if_pos c6] at H; have c6b0 : decide (x12_1 < (l0.length : Int)) = true := decide_eq_true c6; clear c6
         by_cases c7 : (l0.length : Int) = 0
         · rw [if_pos c7] at H; exact absurd H (by simp)
         · rw [if_neg c7] at H; have c7b0 : ((l0.length : Int) == 0) = false := beq_eq_false_iff_ne.mpr c7; have c7b1 : ((l0.length : Int) != 0) = true := bne_iff_ne.mpr c7
           have c7b2 : ¬ (l0 = []) := fun h_ => c7 (by rw [h_]; rfl)
           obtain ⟨ji8, hji8⟩ : ∃ j_ : Int, (Int.tmod (wrap64 ((wrap64 (x12_1 + (l0.length : Int))) - 1)) (l0.length : Int)) = j_ := ⟨_, rfl⟩
           replace H : (if 0 ≤ (ji8) then (if (ji8) < (l0.length : Int) then ((plane_Turn.f ((rd_T36 l0 (ji8)).f0) ((rd_T36 l0 (ji8)).f1) ((rd_T36 l0 x12_1).f0) ((rd_T36 l0 x12_1).f1) a1_0 a1_1).bind fun t378 => (if t378 = 0 then ((polygon_on.f ((rd_T36 l0 (ji8)).f0) ((rd_T36 l0 (ji8)).f1) ((rd_T36 l0 x12_1).f0) ((rd_T36 l0 x12_1).f1) a1_0 a1_1).bind fun t379 => (polygon_locate.j1 k1 l0 x5_1 t378 l0 (l0.length : Int) x12_1 t379 a1_0 a1_1 ((rd_T36 l0 x12_1).f0) ((rd_T36 l0 x12_1).f1) ((rd_T36 l0 (ji8)).f0) ((rd_T36 l0 (ji8)).f1))) else (polygon_locate.j1 k1 l0 x5_1 t378 l0 (l0.length : Int) x12_1 false a1_0 a1_1 ((rd_T36 l0 x12_1).f0) ((rd_T36 l0 x12_1).f1) ((rd_T36 l0 (ji8)).f0) ((rd_T36 l0 (ji8)).f1)))) else (none)) else (none)) = some r := by first | (rw [hji8] at H; exact H) | (simp only [hji8] at H ⊢; exact H)
           by_cases c9 : 0 ≤ (ji8)
           · rw [if_pos c9] at H; have c9b0 : decide (0 ≤ (ji8)) = true := decide_eq_true c9; clear c9
             by_cases c10 : (ji8) < (l0.length : Int)
             · rw [if_pos c10] at H; have c10b0 : decide ((ji8) < (l0.length : Int)) = true := decide_eq_true c10; clear c10; replace H := Option.bind_eq_some_iff.mp H; obtain ⟨t378, A110, H⟩ := H; replace H : (if t378 = 0 then ((polygon_on.f ((rd_T36 l0 (ji8)).f0) ((rd_T36 l0 (ji8)).f1) ((rd_T36 l0 x12_1).f0) ((rd_T36 l0 x12_1).f1) a1_0 a1_1).bind fun t379 => (polygon_locate.j1 k1 l0 x5_1 t378 l0 (l0.length : Int) x12_1 t379 a1_0 a1_1 ((rd_T36 l0 x12_1).f0) ((rd_T36 l0 x12_1).f1) ((rd_T36 l0 (ji8)).f0) ((rd_T36 l0 (ji8)).f1))) else (polygon_locate.j1 k1 l0 x5_1 t378 l0 (l0.length : Int) x12_1 false a1_0 a1_1 ((rd_T36 l0 x12_1).f0) ((rd_T36 l0 x12_1).f1) ((rd_T36 l0 (ji8)).f0) ((rd_T36 l0 (ji8)).f1))) = some r := H; have A11 := Aside0.mk A110; clear A110; have HC12 := Aside0.mk H; clear H
               have p374 : 0 ≤ (x12_1 : Int) := of_decide_eq_true (by first | (with_reducible assumption) | assumption)
               have q374 : x12_1 < (l0.length : Int) := of_decide_eq_true (by first | (with_reducible assumption) | assumption)
               obtain ⟨ad374, e374, hx374_0, hx374_1⟩ := at_T36 HR0.out x12_1 p374 q374; cases e374; replace hx374_0 := cl HB hx374_0; replace hx374_1 := cl HB hx374_1; replace p374 := eq_true p374; replace q374 := eq_true q374
               go_upto_region 7 with (first | ((with_reducible refine gate_dst (N := 7) rfl ?_); refine box_s #[.int .i64 0, .int .i64 0] 36 ?_; intro gb375 hg wx08201 hbox hb; have n0_ := kp BK373 hb; have n1_ := st HB hb; have n2_ := Aside0.mk (hbox); have n3_ := ge HB hg; have n4_ := ge HB hg; have n5_ := nl BK373 hg; have n6_ := nr BK373 hg; clear BK373; clear HB; have BK373 := n0_; have HB := n1_; have BK375 := n2_; have GW375 := n3_; have GE375 := n4_; have NB373_375 := n5_; have NB375_373 := n6_; clear n0_ n1_ n2_ n3_ n4_ n5_ n6_; clear hb hbox hg; have hnbx08201 := NB375_373.out; have hncx08201 := NB373_375.out; have hczx08201 : wx08201.cell? ⟨gb375, 0, none⟩ = some (.int .i64 0) := bc BK375 0; have hczx08202 : wx08201.cell? ⟨gb375, 1, none⟩ = some (.int .i64 0) := bc BK375 1; have hfzx08201 := blk_frozen BK375.out 0; have hfzx08202 := blk_frozen BK375.out 1; have p376 : 0 ≤ ((ji8) : Int) := of_decide_eq_true (by first | (with_reducible assumption) | assumption); have q376 : (ji8) < (l0.length : Int) := of_decide_eq_true (by first | (with_reducible assumption) | assumption); obtain ⟨ad376, e376, hx376_0, hx376_1⟩ := at_T36 HR0.out (ji8) p376 q376; obtain rfl : ad374 = ad376 := (by injection e376); have hn376_0 : ad374.block ≠ gb375 := Nat.ne_of_lt (Nat.lt_of_lt_of_le (by have := World.block_lt_of_cell? _ _ hx376_0; first | rwa [add_block] at this | exact this) GW375.out); have hn376_1 : ad374.block ≠ gb375 := Nat.ne_of_lt (Nat.lt_of_lt_of_le (by have := World.block_lt_of_cell? _ _ hx376_0; first | rwa [add_block] at this | exact this) GW375.out); replace hx376_0 := cl HB hx376_0; replace hx376_1 := cl HB hx376_1; replace hx376_0 := (cell_far (p := ⟨gb375, 0, none⟩) (by first | (rw [add_block]; exact hn376_0) | (show (Addr.add _ _).block ≠ _; rw [add_block]; exact hn376_0) | exact hn376_0) (.int .i64 ((rd_T36 l0 x12_1).f0))).trans hx376_0; replace hx376_1 := (cell_far (p := ⟨gb375, 0, none⟩) (by first | (rw [add_block]; exact hn376_0) | (show (Addr.add _ _).block ≠ _; rw [add_block]; exact hn376_0) | exact hn376_0) (.int .i64 ((rd_T36 l0 x12_1).f0))).trans hx376_1; replace hx376_0 := (cell_far (p := ⟨gb375, 1, none⟩) (by first | (rw [add_block]; exact hn376_1) | (show (Addr.add _ _).block ≠ _; rw [add_block]; exact hn376_1) | exact hn376_1) (.int .i64 ((rd_T36 l0 x12_1).f1))).trans hx376_0; replace hx376_1 := (cell_far (p := ⟨gb375, 1, none⟩) (by first | (rw [add_block]; exact hn376_1) | (show (Addr.add _ _).block ≠ _; rw [add_block]; exact hn376_1) | exact hn376_1) (.int .i64 ((rd_T36 l0 x12_1).f1))).trans hx376_1; clear hn376_0; clear hn376_1; replace p376 := eq_true p376; replace q376 := eq_true q376) | ((with_reducible refine gate_dst (N := 8) rfl ?_); refine box_s #[.int .i64 0, .int .i64 0] 36 ?_; intro gb377 hg wxa0261 hbox hb; have n0_ := kp BK373 hb; have n1_ := Aside0.mk (blk_below (g := gb375) (o := .cells #[.int .i64 ((rd_T36 l0 x12_1).f0), .int .i64 ((rd_T36 l0 x12_1).f1)] 36 (0, 0)) (by (with_reducible repeat (first | refine blk_drewN ?_ _ | refine blk_drew ?_ | refine blk_alloc ?_ _)); refine blk_put (cs := #[.int .i64 ((rd_T36 l0 x12_1).f0), .int .i64 0]) ?_ 1 _ rfl; (with_reducible repeat (first | refine blk_drewN ?_ _ | refine blk_drew ?_ | refine blk_alloc ?_ _)); refine blk_put (cs := #[.int .i64 0, .int .i64 0]) ?_ 0 _ rfl; (with_reducible repeat (first | refine blk_drewN ?_ _ | refine blk_drew ?_ | refine blk_alloc ?_ _)); exact BK375.out) hb); have n2_ := st HB hb; have n3_ := Aside0.mk (hbox); have n4_ := ge HB hg; have n5_ := ge HB hg; have n6_ := nl BK373 hg; have n7_ := nr BK373 hg; have n8_ := Aside0.mk ((by rw [hg]; exact Nat.ne_of_lt (blk_lt (g := gb375) (o := .cells #[.int .i64 ((rd_T36 l0 x12_1).f0), .int .i64 ((rd_T36 l0 x12_1).f1)] 36 (0, 0)) (by (with_reducible repeat (first | refine blk_drewN ?_ _ | refine blk_drew ?_ | refine blk_alloc ?_ _)); refine blk_put (cs := #[.int .i64 ((rd_T36 l0 x12_1).f0), .int .i64 0]) ?_ 1 _ rfl; (with_reducible repeat (first | refine blk_drewN ?_ _ | refine blk_drew ?_ | refine blk_alloc ?_ _)); refine blk_put (cs := #[.int .i64 0, .int .i64 0]) ?_ 0 _ rfl; (with_reducible repeat (first | refine blk_drewN ?_ _ | refine blk_drew ?_ | refine blk_alloc ?_ _)); exact BK375.out)) : gb375 ≠ gb377)); have n9_ := Aside0.mk ((by rw [hg]; exact Nat.ne_of_gt (blk_lt (g := gb375) (o := .cells #[.int .i64 ((rd_T36 l0 x12_1).f0), .int .i64 ((rd_T36 l0 x12_1).f1)] 36 (0, 0)) (by (with_reducible repeat (first | refine blk_drewN ?_ _ | refine blk_drew ?_ | refine blk_alloc ?_ _)); refine blk_put (cs := #[.int .i64 ((rd_T36 l0 x12_1).f0), .int .i64 0]) ?_ 1 _ rfl; (with_reducible repeat (first | refine blk_drewN ?_ _ | refine blk_drew ?_ | refine blk_alloc ?_ _)); refine blk_put (cs := #[.int .i64 0, .int .i64 0]) ?_ 0 _ rfl; (with_reducible repeat (first | refine blk_drewN ?_ _ | refine blk_drew ?_ | refine blk_alloc ?_ _)); exact BK375.out)) : gb377 ≠ gb375)); clear BK373; clear BK375; clear HB; have BK373 := n0_; have BK375 := n1_; have HB := n2_; have BK377 := n3_; have GW377 := n4_; have GE377 := n5_; have NB373_377 := n6_; have NB377_373 := n7_; have NB375_377 := n8_; have NB377_375 := n9_; clear n0_ n1_ n2_ n3_ n4_ n5_ n6_ n7_ n8_ n9_; clear hb hbox hg; have hnbxa0261 := NB377_373.out; have hncxa0261 := NB373_377.out; have hnbxa0262 := NB377_375.out; have hncxa0262 := NB375_377.out; have hczxa0261 : wxa0261.cell? ⟨gb377, 0, none⟩ = some (.int .i64 0) := bc BK377 0; have hczxa0262 : wxa0261.cell? ⟨gb377, 1, none⟩ = some (.int .i64 0) := bc BK377 1; have hfzxa0261 := blk_frozen BK377.out 0; have hfzxa0262 := blk_frozen BK377.out 1; have hczxa0263 : wxa0261.cell? ⟨gb375, 0, none⟩ = some (.int .i64 ((rd_T36 l0 x12_1).f0)) := bc BK375 0; have hczxa0264 : wxa0261.cell? ⟨gb375, 1, none⟩ = some (.int .i64 ((rd_T36 l0 x12_1).f1)) := bc BK375 1; have hfzxa0263 := blk_frozen BK375.out 0; have hfzxa0264 := blk_frozen BK375.out 1; have hczxa0265 : wxa0261.cell? ⟨gb373, 0, none⟩ = some (.int .i64 a1_0) := bc BK373 0; have hczxa0266 : wxa0261.cell? ⟨gb373, 1, none⟩ = some (.int .i64 a1_1) := bc BK373 1; have hfzxa0265 := blk_frozen BK373.out 0; have hfzxa0266 := blk_frozen BK373.out 1) | ((with_reducible refine gate_callee (f := 106) rfl ?_); refine goesL_ (some 31) rfl rfl Try.func106 (by kernel_rfl) rfl #[.agg #[.int .i64 ((rd_T36 l0 (ji8)).f0), .int .i64 ((rd_T36 l0 (ji8)).f1)], .agg #[.int .i64 ((rd_T36 l0 x12_1).f0), .int .i64 ((rd_T36 l0 x12_1).f1)], .agg #[.int .i64 a1_0, .int .i64 a1_1]] rfl (by (try simp only [List.map_toArray, List.map_cons, List.map_nil]); first | done | (simp only [hji8]; rfl) | rfl | (simp only [List.length_drop, List.length_take]; rfl)) ?_; (with_reducible refine (plane_Turn.calls ((rd_T36 l0 (ji8)).f0) ((rd_T36 l0 (ji8)).f1) ((rd_T36 l0 x12_1).f0) ((rd_T36 l0 x12_1).f1) a1_0 a1_1 t378 _ A11.out).mono ?_); rintro e wx3fd21 ⟨rfl, hb⟩; refine ⟨_, rfl, ?_⟩; have n0_ := kp BK373 hb; have n1_ := kp BK375 hb; have n2_ := Aside0.mk (blk_below (g := gb377) (o := .cells #[.int .i64 ((rd_T36 l0 (ji8)).f0), .int .i64 ((rd_T36 l0 (ji8)).f1)] 36 (0, 0)) (by (with_reducible repeat (first | refine blk_drewN ?_ _ | refine blk_drew ?_ | refine blk_alloc ?_ _)); refine blk_put (cs := #[.int .i64 ((rd_T36 l0 (ji8)).f0), .int .i64 0]) ?_ 1 _ rfl; (with_reducible repeat (first | refine blk_drewN ?_ _ | refine blk_drew ?_ | refine blk_alloc ?_ _)); refine blk_put (cs := #[.int .i64 0, .int .i64 0]) ?_ 0 _ rfl; (with_reducible repeat (first | refine blk_drewN ?_ _ | refine blk_drew ?_ | refine blk_alloc ?_ _)); exact BK377.out) hb); have n3_ := st HB hb; clear BK373; clear BK375; clear BK377; clear HB; have BK373 := n0_; have BK375 := n1_; have BK377 := n2_; have HB := n3_; clear n0_ n1_ n2_ n3_; (try clear hb); (try clear hb2); (try clear hk); (try clear hi)))
               (try simp only [Act.put, List.setIfInBounds_toArray, List.set_cons_zero, List.set_cons_succ])
               go_cut [39] (fun v39 wc => ∃ (kq : Nat) (x39_11 : Bool), v39 = .bool x39_11 ∧ Aside0 (polygon_locate.j1 kq l0 x5_1 t378 l0 (l0.length : Int) x12_1 x39_11 a1_0 a1_1 ((rd_T36 l0 x12_1).f0) ((rd_T36 l0 x12_1).f1) ((rd_T36 l0 (ji8)).f0) ((rd_T36 l0 (ji8)).f1) = some r) ∧ Aside0 (kq ≤ k1) ∧ Aside0 (wc.heap[gb373]? = some (.cells #[.int .i64 a1_0, .int .i64 a1_1] 36 (0, 0))) ∧ Aside0 (wc.heap[gb375]? = some (.cells #[.int .i64 ((rd_T36 l0 x12_1).f0), .int .i64 ((rd_T36 l0 x12_1).f1)] 36 (0, 0))) ∧ Aside0 (wc.heap[gb377]? = some (.cells #[.int .i64 ((rd_T36 l0 (ji8)).f0), .int .i64 ((rd_T36 l0 (ji8)).f1)] 36 (0, 0))) ∧ Aside0 (Below w.heap.size w wc))
               case first =>
                have H := HC12.out; clear HC12; refine Or.elim (Classical.em (t378 = 0)) (fun c23 => ?p2_) (fun c23 => ?n2_)
                case' p2_ =>
                 rw [if_pos c23] at H; have c23b0 : (t378 == 0) = true := beq_iff_eq.mpr c23; have c23b1 : (t378 != 0) = false := bne_eq_false_iff_eq.mpr c23; clear c23
                 (first | rw [c23b0] | (simp only [i64_w, i32_w]; rw [c23b0]) | skip)
                 replace H := Option.bind_eq_some_iff.mp H; obtain ⟨t379, A240, H⟩ := H; replace H : (polygon_locate.j1 k1 l0 x5_1 t378 l0 (l0.length : Int) x12_1 t379 a1_0 a1_1 ((rd_T36 l0 x12_1).f0) ((rd_T36 l0 x12_1).f1) ((rd_T36 l0 (ji8)).f0) ((rd_T36 l0 (ji8)).f1)) = some r := H; have A24 := Aside0.mk A240; clear A240; have hm1_0 := Aside0.mk trivial
                case' n2_ =>
                 rw [if_neg c23] at H; have c23b0 : (t378 == 0) = false := beq_eq_false_iff_ne.mpr c23; have c23b1 : (t378 != 0) = true := bne_iff_ne.mpr c23
                 (first | rw [c23b0] | (simp only [i64_w, i32_w]; rw [c23b0]) | skip)
                 have hm1_1 := Aside0.mk trivial
                all_goals
                 have H' := Aside0.mk H; clear H
                 first
                  | clear hm1_0; have hnbzd1 := NB377_373.out; have hnczd1 := NB373_377.out; have hnbzd2 := NB377_375.out; have hnczd2 := NB375_377.out; have hczzd1 : wx3fd21.cell? ⟨gb377, 0, none⟩ = some (.int .i64 ((rd_T36 l0 (ji8)).f0)) := bc BK377 0; have hczzd2 : wx3fd21.cell? ⟨gb377, 1, none⟩ = some (.int .i64 ((rd_T36 l0 (ji8)).f1)) := bc BK377 1; have hfzzd1 := blk_frozen BK377.out 0; have hfzzd2 := blk_frozen BK377.out 1; have hnbzd3 := NB375_373.out; have hnczd3 := NB373_375.out; have hczzd3 : wx3fd21.cell? ⟨gb375, 0, none⟩ = some (.int .i64 ((rd_T36 l0 x12_1).f0)) := bc BK375 0; have hczzd4 : wx3fd21.cell? ⟨gb375, 1, none⟩ = some (.int .i64 ((rd_T36 l0 x12_1).f1)) := bc BK375 1; have hfzzd3 := blk_frozen BK375.out 0; have hfzzd4 := blk_frozen BK375.out 1; have hczzd5 : wx3fd21.cell? ⟨gb373, 0, none⟩ = some (.int .i64 a1_0) := bc BK373 0; have hczzd6 : wx3fd21.cell? ⟨gb373, 1, none⟩ = some (.int .i64 a1_1) := bc BK373 1; have hfzzd5 := blk_frozen BK373.out 0; have hfzzd6 := blk_frozen BK373.out 1
                    go_wp2_with (first | (go_at_call 108; (with_reducible refine (polygon_on.calls ((rd_T36 l0 (ji8)).f0) ((rd_T36 l0 (ji8)).f1) ((rd_T36 l0 x12_1).f0) ((rd_T36 l0 x12_1).f1) a1_0 a1_1 t379 _ A24.out).mono ?_); rintro e wxf4d71 ⟨rfl, hb⟩; have n0_ := kp BK373 hb; have n1_ := kp BK375 hb; have n2_ := kp BK377 hb; have n3_ := st HB hb; clear BK373; clear BK375; clear BK377; clear HB; have BK373 := n0_; have BK375 := n1_; have BK377 := n2_; have HB := n3_; clear n0_ n1_ n2_ n3_; (try clear hb); (try clear hb2); (try clear hk); (try clear hi)))
                    go_meet
                    case rel => exact ⟨_, (t379), (by first | rfl | (simp; done) | (simp [*]; done)), H', ⟨by have := HK1.out; first | omega | exact Nat.le_refl _⟩, ⟨by (with_reducible repeat (first | refine blk_drewN ?_ _ | refine blk_drew ?_ | refine blk_alloc ?_ _)); exact BK373.out⟩, ⟨by (with_reducible repeat (first | refine blk_drewN ?_ _ | refine blk_drew ?_ | refine blk_alloc ?_ _)); exact BK375.out⟩, ⟨by (with_reducible repeat (first | refine blk_drewN ?_ _ | refine blk_drew ?_ | refine blk_alloc ?_ _)); exact BK377.out⟩, ⟨by repeat (first | (with_reducible first | exact HB.out | apply below_alloc | apply pw_below_drewN | apply below_drew1 | refine below_set ?_ GE373.out | refine below_set ?_ GE375.out | refine below_set ?_ GE377.out) | exact HB.out)⟩⟩
                  | clear hm1_1; go_wp2; go_meet
                    case rel => exact ⟨_, (false), (by first | rfl | (simp; done) | (simp [*]; done)), H', ⟨by have := HK1.out; first | omega | exact Nat.le_refl _⟩, ⟨by (with_reducible repeat (first | refine blk_drewN ?_ _ | refine blk_drew ?_ | refine blk_alloc ?_ _)); exact BK373.out⟩, ⟨by (with_reducible repeat (first | refine blk_drewN ?_ _ | refine blk_drew ?_ | refine blk_alloc ?_ _)); exact BK375.out⟩, ⟨by (with_reducible repeat (first | refine blk_drewN ?_ _ | refine blk_drew ?_ | refine blk_alloc ?_ _)); exact BK377.out⟩, ⟨by repeat (first | (with_reducible first | exact HB.out | apply below_alloc | apply pw_below_drewN | apply below_drew1 | refine below_set ?_ GE373.out | refine below_set ?_ GE375.out | refine below_set ?_ GE377.out) | exact HB.out)⟩⟩
               case rest =>
                clear HC12
                (try clear c1); (try clear c2); (try clear p2); (try clear p3); (try clear q3); (try clear hx3); (try clear c4); (try clear c4b0); (try clear c5); (try clear c5b0); (try clear c6); (try clear c6b0); (try clear p6); (try clear c7); (try clear c7b0); (try clear c7b1); (try clear c7b2); (try clear c9); (try clear c9b0); (try clear c10); (try clear c10b0); (try clear c14); (try clear c17); (try clear c18); (try clear c23); (try clear c23b0); (try clear c23b1); (try clear c25); (try clear c26); (try clear c28); (try clear hczx08201); (try clear hczx08202); (try clear hczxa0261); (try clear hczxa0262); (try clear hczxa0263); (try clear hczxa0264); (try clear hczxa0265); (try clear hczxa0266); (try clear hczzc1); (try clear hczzc2)
                (try clear hczzc3); (try clear hczzc4); (try clear hczzc5); (try clear hczzc6); (try clear hfzx08201); (try clear hfzx08202); (try clear hfzxa0261); (try clear hfzxa0262); (try clear hfzxa0263); (try clear hfzxa0264); (try clear hfzxa0265); (try clear hfzxa0266); (try clear hfzzc1); (try clear hfzzc2); (try clear hfzzc3); (try clear hfzzc4); (try clear hfzzc5); (try clear hfzzc6); (try clear hx374_0); (try clear hx374_1); (try clear hx376_0); (try clear hx376_1); (try clear p2); (try clear p374); (try clear p376); (try clear q374); (try clear q376)
                obtain ⟨kq, x39_11, rfl, HA, HJ11, BK373, BK375, BK377, HB⟩ := hcut
                cases kq with
                | zero => exact absurd HA.out (by simp [polygon_locate.j1])
                | succ kj11 =>
                 have H := HA.out; clear HA; simp only [polygon_locate.j1] at H; refine Or.elim (Classical.em (x39_11 = true)) (fun c32 => ?p4_) (fun c32 => ?n4_)
                 case' p4_ =>
                  subst c32
                  have H1 : (some 0) = some r := by rw [if_pos rfl] at H; exact H
                  clear H; have H := H1; clear H1; have hm3_0 := Aside0.mk trivial
                 case' n4_ =>
                  replace c32 := Bool.eq_false_iff.mpr c32; subst c32
                  have H1 : (if ((rd_T36 l0 (ji8)).f1) ≤ a1_1 then (if a1_1 < ((rd_T36 l0 x12_1).f1) then (if t378 > 0 then (polygon_locate.l0 kj11 l0 (wrap64 (-x5_1)) l0 (l0.length : Int) (wrap64 (x12_1 + 1)) a1_0 a1_1) else (if ((rd_T36 l0 x12_1).f1) ≤ a1_1 then (if a1_1 < ((rd_T36 l0 (ji8)).f1) then (if t378 < 0 then (polygon_locate.l0 kj11 l0 (wrap64 (-x5_1)) l0 (l0.length : Int) (wrap64 (x12_1 + 1)) a1_0 a1_1) else (polygon_locate.l0 kj11 l0 x5_1 l0 (l0.length : Int) (wrap64 (x12_1 + 1)) a1_0 a1_1)) else (polygon_locate.l0 kj11 l0 x5_1 l0 (l0.length : Int) (wrap64 (x12_1 + 1)) a1_0 a1_1)) else (polygon_locate.l0 kj11 l0 x5_1 l0 (l0.length : Int) (wrap64 (x12_1 + 1)) a1_0 a1_1))) else (if ((rd_T36 l0 x12_1).f1) ≤ a1_1 then (if a1_1 < ((rd_T36 l0 (ji8)).f1) then (if t378 < 0 then (polygon_locate.l0 kj11 l0 (wrap64 (-x5_1)) l0 (l0.length : Int) (wrap64 (x12_1 + 1)) a1_0 a1_1) else (polygon_locate.l0 kj11 l0 x5_1 l0 (l0.length : Int) (wrap64 (x12_1 + 1)) a1_0 a1_1)) else (polygon_locate.l0 kj11 l0 x5_1 l0 (l0.length : Int) (wrap64 (x12_1 + 1)) a1_0 a1_1)) else (polygon_locate.l0 kj11 l0 x5_1 l0 (l0.length : Int) (wrap64 (x12_1 + 1)) a1_0 a1_1))) else (if ((rd_T36 l0 x12_1).f1) ≤ a1_1 then (if a1_1 < ((rd_T36 l0 (ji8)).f1) then (if t378 < 0 then (polygon_locate.l0 kj11 l0 (wrap64 (-x5_1)) l0 (l0.length : Int) (wrap64 (x12_1 + 1)) a1_0 a1_1) else (polygon_locate.l0 kj11 l0 x5_1 l0 (l0.length : Int) (wrap64 (x12_1 + 1)) a1_0 a1_1)) else (polygon_locate.l0 kj11 l0 x5_1 l0 (l0.length : Int) (wrap64 (x12_1 + 1)) a1_0 a1_1)) else (polygon_locate.l0 kj11 l0 x5_1 l0 (l0.length : Int) (wrap64 (x12_1 + 1)) a1_0 a1_1))) = some r := by rw [if_neg (show ¬ (false = true) by decide)] at H; exact H
                  clear H; have H := H1; clear H1; refine Or.elim (Classical.em (((rd_T36 l0 (ji8)).f1) ≤ a1_1)) (fun c33 => ?p5_) (fun c33 => ?n5_)
                  case' p5_ =>
                   rw [if_pos c33] at H; have c33b0 : decide (((rd_T36 l0 (ji8)).f1) ≤ a1_1) = true := decide_eq_true c33; clear c33; refine Or.elim (Classical.em (a1_1 < ((rd_T36 l0 x12_1).f1))) (fun c34 => ?p6_) (fun c34 => ?n6_)
                   case' p6_ =>
                    rw [if_pos c34] at H; have c34b0 : decide (a1_1 < ((rd_T36 l0 x12_1).f1)) = true := decide_eq_true c34; clear c34; refine Or.elim (Classical.em (t378 > 0)) (fun c35 => ?p7_) (fun c35 => ?n7_)
                    case' p7_ =>
                     rw [if_pos c35] at H; have c35b0 : decide (0 < t378) = true := decide_eq_true c35; clear c35; have hm3_1 := Aside0.mk trivial
                    case' n7_ =>
                     rw [if_neg c35] at H; have c35b0 : decide (0 < t378) = false := decide_eq_false c35; clear c35; refine Or.elim (Classical.em (((rd_T36 l0 x12_1).f1) ≤ a1_1)) (fun c42 => ?p8_) (fun c42 => ?n8_)
                     case' p8_ =>
                      rw [if_pos c42] at H; have c42b0 : decide (((rd_T36 l0 x12_1).f1) ≤ a1_1) = true := decide_eq_true c42; clear c42; refine Or.elim (Classical.em (a1_1 < ((rd_T36 l0 (ji8)).f1))) (fun c43 => ?p9_) (fun c43 => ?n9_)
                      case' p9_ =>
                       rw [if_pos c43] at H; have c43b0 : decide (a1_1 < ((rd_T36 l0 (ji8)).f1)) = true := decide_eq_true c43; clear c43; refine Or.elim (Classical.em (t378 < 0)) (fun c44 => ?p10_) (fun c44 => ?n10_)
                       case' p10_ =>
                        rw [if_pos c44] at H; have c44b0 : decide (t378 < 0) = true := decide_eq_true c44; clear c44; have hm3_1 := Aside0.mk trivial
                       case' n10_ =>
                        rw [if_neg c44] at H; have c44b0 : decide (t378 < 0) = false := decide_eq_false c44; clear c44; have hm3_1 := Aside0.mk trivial
                      case' n9_ =>
                       rw [if_neg c43] at H; have c43b0 : decide (a1_1 < ((rd_T36 l0 (ji8)).f1)) = false := decide_eq_false c43; clear c43; have hm3_1 := Aside0.mk trivial
                     case' n8_ =>
                      rw [if_neg c42] at H; have c42b0 : decide (((rd_T36 l0 x12_1).f1) ≤ a1_1) = false := decide_eq_false c42; clear c42; have hm3_1 := Aside0.mk trivial
                   case' n6_ =>
                    rw [if_neg c34] at H; have c34b0 : decide (a1_1 < ((rd_T36 l0 x12_1).f1)) = false := decide_eq_false c34; clear c34; refine Or.elim (Classical.em (((rd_T36 l0 x12_1).f1) ≤ a1_1)) (fun c69 => ?p11_) (fun c69 => ?n11_)
                    case' p11_ =>
                     rw [if_pos c69] at H; have c69b0 : decide (((rd_T36 l0 x12_1).f1) ≤ a1_1) = true := decide_eq_true c69; clear c69; refine Or.elim (Classical.em (a1_1 < ((rd_T36 l0 (ji8)).f1))) (fun c70 => ?p12_) (fun c70 => ?n12_)
                     case' p12_ =>
                      rw [if_pos c70] at H; have c70b0 : decide (a1_1 < ((rd_T36 l0 (ji8)).f1)) = true := decide_eq_true c70; clear c70; refine Or.elim (Classical.em (t378 < 0)) (fun c71 => ?p13_) (fun c71 => ?n13_)
                      case' p13_ =>
                       rw [if_pos c71] at H; have c71b0 : decide (t378 < 0) = true := decide_eq_true c71; clear c71; have hm3_1 := Aside0.mk trivial
                      case' n13_ =>
                       rw [if_neg c71] at H; have c71b0 : decide (t378 < 0) = false := decide_eq_false c71; clear c71; have hm3_1 := Aside0.mk trivial
                     case' n12_ =>
                      rw [if_neg c70] at H; have c70b0 : decide (a1_1 < ((rd_T36 l0 (ji8)).f1)) = false := decide_eq_false c70; clear c70; have hm3_1 := Aside0.mk trivial
                    case' n11_ =>
                     rw [if_neg c69] at H; have c69b0 : decide (((rd_T36 l0 x12_1).f1) ≤ a1_1) = false := decide_eq_false c69; clear c69; have hm3_1 := Aside0.mk trivial
                  case' n5_ =>
                   rw [if_neg c33] at H; have c33b0 : decide (((rd_T36 l0 (ji8)).f1) ≤ a1_1) = false := decide_eq_false c33; clear c33; refine Or.elim (Classical.em (((rd_T36 l0 x12_1).f1) ≤ a1_1)) (fun c96 => ?p14_) (fun c96 => ?n14_)
                   case' p14_ =>
                    rw [if_pos c96] at H; have c96b0 : decide (((rd_T36 l0 x12_1).f1) ≤ a1_1) = true := decide_eq_true c96; clear c96; refine Or.elim (Classical.em (a1_1 < ((rd_T36 l0 (ji8)).f1))) (fun c97 => ?p15_) (fun c97 => ?n15_)
                    case' p15_ =>
                     rw [if_pos c97] at H; have c97b0 : decide (a1_1 < ((rd_T36 l0 (ji8)).f1)) = true := decide_eq_true c97; clear c97; refine Or.elim (Classical.em (t378 < 0)) (fun c98 => ?p16_) (fun c98 => ?n16_)
                     case' p16_ =>
                      rw [if_pos c98] at H; have c98b0 : decide (t378 < 0) = true := decide_eq_true c98; clear c98; have hm3_1 := Aside0.mk trivial
                     case' n16_ =>
                      rw [if_neg c98] at H; have c98b0 : decide (t378 < 0) = false := decide_eq_false c98; clear c98; have hm3_1 := Aside0.mk trivial
                    case' n15_ =>
                     rw [if_neg c97] at H; have c97b0 : decide (a1_1 < ((rd_T36 l0 (ji8)).f1)) = false := decide_eq_false c97; clear c97; have hm3_1 := Aside0.mk trivial
                   case' n14_ =>
                    rw [if_neg c96] at H; have c96b0 : decide (((rd_T36 l0 x12_1).f1) ≤ a1_1) = false := decide_eq_false c96; clear c96; have hm3_1 := Aside0.mk trivial
                 all_goals
                  first
                   | clear hm3_0; obtain rfl := Option.some.inj H; go_wp2; go_ret
                     exact ⟨by first | rfl | (simp [errW_none, errW_some] <;> rfl) | (simp only [← hji8]; first | rfl | (simp [errW_none, errW_some] <;> rfl)) | (simp [*, errW_none, errW_some] <;> rfl), by repeat (first | (with_reducible first | exact HB.out | apply below_alloc | apply pw_below_drewN | apply below_drew1 | refine below_set ?_ GE373.out | refine below_set ?_ GE375.out | refine below_set ?_ GE377.out) | exact HB.out)⟩
                   | clear hm3_1; have H' := Aside0.mk H; clear H; have hnbze1 := NB377_373.out; have hncze1 := NB373_377.out; have hnbze2 := NB377_375.out; have hncze2 := NB375_377.out; have hczze1 : wc.cell? ⟨gb377, 0, none⟩ = some (.int .i64 ((rd_T36 l0 (ji8)).f0)) := bc BK377 0; have hczze2 : wc.cell? ⟨gb377, 1, none⟩ = some (.int .i64 ((rd_T36 l0 (ji8)).f1)) := bc BK377 1; have hfzze1 := blk_frozen BK377.out 0; have hfzze2 := blk_frozen BK377.out 1; have hnbze3 := NB373_375.out; have hncze3 := NB375_373.out; have hczze3 : wc.cell? ⟨gb373, 0, none⟩ = some (.int .i64 a1_0) := bc BK373 0; have hczze4 : wc.cell? ⟨gb373, 1, none⟩ = some (.int .i64 a1_1) := bc BK373 1; have hfzze3 := blk_frozen BK373.out 0; have hfzze4 := blk_frozen BK373.out 1; have hczze5 : wc.cell? ⟨gb375, 0, none⟩ = some (.int .i64 ((rd_T36 l0 x12_1).f0)) := bc BK375 0; have hczze6 : wc.cell? ⟨gb375, 1, none⟩ = some (.int .i64 ((rd_T36 l0 x12_1).f1)) := bc BK375 1; have hfzze5 := blk_frozen BK375.out 0; have hfzze6 := blk_frozen BK375.out 1; go_wp2
                     first | go_roundg kj11 | (subst hji8; go_roundg kj11)
                     case measure => have := HK1.out; have := HJ11.out; omega
                     case rel => first | (exact ⟨(wrap64 (-x5_1)), (wrap64 (x12_1 + 1)), (by first | rfl | (simp; done) | (simp [*]; done)), (by first | rfl | (simp; done) | (simp [*]; done)), H', ⟨by have := HK1.out; have := HJ11.out; omega⟩, ⟨by (with_reducible repeat (first | refine blk_drewN ?_ _ | refine blk_drew ?_ | refine blk_alloc ?_ _)); exact BK373.out⟩, ⟨by repeat (first | (with_reducible first | exact HB.out | apply below_alloc | apply pw_below_drewN | apply below_drew1 | refine below_set ?_ GE373.out | refine below_set ?_ GE375.out | refine below_set ?_ GE377.out) | exact HB.out)⟩⟩) | (exact ⟨(x5_1), (wrap64 (x12_1 + 1)), (by first | rfl | (simp; done) | (simp [*]; done)), (by first | rfl | (simp; done) | (simp [*]; done)), H', ⟨by have := HK1.out; have := HJ11.out; omega⟩, ⟨by (with_reducible repeat (first | refine blk_drewN ?_ _ | refine blk_drew ?_ | refine blk_alloc ?_ _)); exact BK373.out⟩, ⟨by repeat (first | (with_reducible first | exact HB.out | apply below_alloc | apply pw_below_drewN | apply below_drew1 | refine below_set ?_ GE373.out | refine below_set ?_ GE375.out | refine below_set ?_ GE377.out) | exact HB.out)⟩⟩)
             · rw [if_neg c10] at H; exact absurd H (by simp)
           · rw [if_neg c9] at H; exact absurd H (by simp)
       · rw [if_neg c6] at H; exact absurd H (by simp)
     · rw [if_neg c5] at H; exact absurd H (by simp)
   · rw [if_neg c4] at H; have c4b0 : decide (x12_1 < (l0.length : Int)) = false := decide_eq_false c4; clear c4; obtain rfl := Option.some.inj H; go_wp2; go_ret
     exact ⟨by first | rfl | (simp [errW_none, errW_some] <;> rfl) | (simp [*, errW_none, errW_some] <;> rfl), by repeat (first | (with_reducible first | exact HB.out | apply below_alloc | apply pw_below_drewN | apply below_drew1 | refine below_set ?_ GE373.out) | exact HB.out)⟩

end Go.Proofs.Ytbpbpojnfhhbjaa.PRouteCrossed
