/- Made by a program of this session (wip/tools/myprint.py, over the kit's printer): that the Go functions answer as the Lean functions printed beside them. -/
import Derived.Test.YtbpbpojnfhhbjaaPFlyClosedx0
import Derived.Test.YtbpbpojnfhhbjaaPFlyClosedx2
import Derived.Test.YtbpbpojnfhhbjaaPFlyClosedx5
import Derived.Test.YtbpbpojnfhhbjaaPFlyClosedx8
namespace Go.Proofs.Ytbpbpojnfhhbjaa.PFlyClosed
open Go.RowKit Go.Proofs.YtbpbpojnfhhbjaaW.PrintWords Go.Proofs.YtbpbpojnfhhbjaaW.PrintLast Go.Proofs.YtbpbpojnfhhbjaaW.PrintMore
attribute [local go_sem] max2_int min2_int max_two min_two max_three min_three max_four min_four   -- for this text's walks alone
set_option linter.unusedVariables false
set_option linter.unusedSimpArgs false

/-! ### polygon_locate: function 73 -/
mutual
def polygon_locate.l0 : Nat → List (S36) → Int → List (S36) → Int → Int → Int → Int → Option (Int)
  | 0, _, _, _, _, _, _, _ => none
  | k + 1, x0, x5, x10, x11, x12, x222000, x222001 => if x12 < x11 then (if 0 ≤ x12 then (if x12 < (x10.length : Int) then (if (x0.length : Int) = 0 then (none) else (if 0 ≤ (Int.tmod (wrap64 ((wrap64 (x12 + (x0.length : Int))) - 1)) (x0.length : Int)) then (if (Int.tmod (wrap64 ((wrap64 (x12 + (x0.length : Int))) - 1)) (x0.length : Int)) < (x0.length : Int) then ((plane_Turn.f ((rd_T36 x0 (Int.tmod (wrap64 ((wrap64 (x12 + (x0.length : Int))) - 1)) (x0.length : Int))).f0) ((rd_T36 x0 (Int.tmod (wrap64 ((wrap64 (x12 + (x0.length : Int))) - 1)) (x0.length : Int))).f1) ((rd_T36 x10 x12).f0) ((rd_T36 x10 x12).f1) x222000 x222001).bind fun t226 => (if t226 = 0 then ((polygon_on.f ((rd_T36 x0 (Int.tmod (wrap64 ((wrap64 (x12 + (x0.length : Int))) - 1)) (x0.length : Int))).f0) ((rd_T36 x0 (Int.tmod (wrap64 ((wrap64 (x12 + (x0.length : Int))) - 1)) (x0.length : Int))).f1) ((rd_T36 x10 x12).f0) ((rd_T36 x10 x12).f1) x222000 x222001).bind fun t227 => (polygon_locate.j1 k x0 x5 t226 x10 x11 x12 t227 x222000 x222001 ((rd_T36 x10 x12).f0) ((rd_T36 x10 x12).f1) ((rd_T36 x0 (Int.tmod (wrap64 ((wrap64 (x12 + (x0.length : Int))) - 1)) (x0.length : Int))).f0) ((rd_T36 x0 (Int.tmod (wrap64 ((wrap64 (x12 + (x0.length : Int))) - 1)) (x0.length : Int))).f1))) else (polygon_locate.j1 k x0 x5 t226 x10 x11 x12 false x222000 x222001 ((rd_T36 x10 x12).f0) ((rd_T36 x10 x12).f1) ((rd_T36 x0 (Int.tmod (wrap64 ((wrap64 (x12 + (x0.length : Int))) - 1)) (x0.length : Int))).f0) ((rd_T36 x0 (Int.tmod (wrap64 ((wrap64 (x12 + (x0.length : Int))) - 1)) (x0.length : Int))).f1)))) else (none)) else (none))) else (none)) else (none)) else (some x5)
def polygon_locate.j1 : Nat → List (S36) → Int → Int → List (S36) → Int → Int → Bool → Int → Int → Int → Int → Int → Int → Option (Int)
  | 0, _, _, _, _, _, _, _, _, _, _, _, _, _ => none
  | k + 1, x0, x5, x9, x10, x11, x12, x39, x222000, x222001, x224000, x224001, x226000, x226001 => if x39 = true then (some 0) else (if x226001 ≤ x222001 then (if x222001 < x224001 then (if x9 > 0 then (polygon_locate.l0 k x0 (wrap64 (-x5)) x10 x11 (wrap64 (x12 + 1)) x222000 x222001) else (if x224001 ≤ x222001 then (if x222001 < x226001 then (if x9 < 0 then (polygon_locate.l0 k x0 (wrap64 (-x5)) x10 x11 (wrap64 (x12 + 1)) x222000 x222001) else (polygon_locate.l0 k x0 x5 x10 x11 (wrap64 (x12 + 1)) x222000 x222001)) else (polygon_locate.l0 k x0 x5 x10 x11 (wrap64 (x12 + 1)) x222000 x222001)) else (polygon_locate.l0 k x0 x5 x10 x11 (wrap64 (x12 + 1)) x222000 x222001))) else (if x224001 ≤ x222001 then (if x222001 < x226001 then (if x9 < 0 then (polygon_locate.l0 k x0 (wrap64 (-x5)) x10 x11 (wrap64 (x12 + 1)) x222000 x222001) else (polygon_locate.l0 k x0 x5 x10 x11 (wrap64 (x12 + 1)) x222000 x222001)) else (polygon_locate.l0 k x0 x5 x10 x11 (wrap64 (x12 + 1)) x222000 x222001)) else (polygon_locate.l0 k x0 x5 x10 x11 (wrap64 (x12 + 1)) x222000 x222001))) else (if x224001 ≤ x222001 then (if x222001 < x226001 then (if x9 < 0 then (polygon_locate.l0 k x0 (wrap64 (-x5)) x10 x11 (wrap64 (x12 + 1)) x222000 x222001) else (polygon_locate.l0 k x0 x5 x10 x11 (wrap64 (x12 + 1)) x222000 x222001)) else (polygon_locate.l0 k x0 x5 x10 x11 (wrap64 (x12 + 1)) x222000 x222001)) else (polygon_locate.l0 k x0 x5 x10 x11 (wrap64 (x12 + 1)) x222000 x222001)))
end
def polygon_locate.f (k : Nat) (l0 : List (S36)) (a1_0 : Int) (a1_1 : Int) : Option (Int) := polygon_locate.l0 k l0 (-1) l0 (l0.length : Int) 0 a1_0 a1_1
theorem polygon_locate.mono_l : ∀ k, (∀ y0 y1 y2 y3 y4 y5 y6, LeO (polygon_locate.l0 k y0 y1 y2 y3 y4 y5 y6) (polygon_locate.l0 (k + 1) y0 y1 y2 y3 y4 y5 y6)) ∧ (∀ y0 y1 y2 y3 y4 y5 y6 y7 y8 y9 y10 y11 y12, LeO (polygon_locate.j1 k y0 y1 y2 y3 y4 y5 y6 y7 y8 y9 y10 y11 y12) (polygon_locate.j1 (k + 1) y0 y1 y2 y3 y4 y5 y6 y7 y8 y9 y10 y11 y12))
  | 0 => ⟨fun _ _ _ _ _ _ _ r h => by simp [polygon_locate.l0] at h, fun _ _ _ _ _ _ _ _ _ _ _ _ _ r h => by simp [polygon_locate.j1] at h⟩
  | k + 1 => by
    obtain ⟨ih0, ih1⟩ := polygon_locate.mono_l k
    refine ⟨?_, ?_⟩
    · intro y0 y1 y2 y3 y4 y5 y6
      unfold polygon_locate.l0
      repeat' first
      | (with_reducible exact ih0 _ _ _ _ _ _ _)
      | (with_reducible exact ih1 _ _ _ _ _ _ _ _ _ _ _ _ _)
      | (with_reducible exact LeO.refl _)
      | (with_reducible exact LeO.none _)
      | (with_reducible refine LeO.ite ?_ ?_)
      | (with_reducible refine LeO.bind ?_ (fun _ => ?_))
      | exact ih0 _ _ _ _ _ _ _
      | exact ih1 _ _ _ _ _ _ _ _ _ _ _ _ _
      | exact LeO.none _
      | refine LeO.ite ?_ ?_
      | refine LeO.bind ?_ (fun _ => ?_)
    · intro y0 y1 y2 y3 y4 y5 y6 y7 y8 y9 y10 y11 y12
      unfold polygon_locate.j1
      repeat' first
      | (with_reducible exact ih0 _ _ _ _ _ _ _)
      | (with_reducible exact ih1 _ _ _ _ _ _ _ _ _ _ _ _ _)
      | (with_reducible exact LeO.refl _)
      | (with_reducible exact LeO.none _)
      | (with_reducible refine LeO.ite ?_ ?_)
      | (with_reducible refine LeO.bind ?_ (fun _ => ?_))
      | exact ih0 _ _ _ _ _ _ _
      | exact ih1 _ _ _ _ _ _ _ _ _ _ _ _ _
      | exact LeO.none _
      | refine LeO.ite ?_ ?_
      | refine LeO.bind ?_ (fun _ => ?_)
theorem polygon_locate.mono : ∀ a0 a1 a2 k, LeO (polygon_locate.f k a0 a1 a2) (polygon_locate.f (k + 1) a0 a1 a2) := by
  intro a0 a1 a2 k
  obtain ⟨ih0, ih1⟩ := polygon_locate.mono_l k
  unfold polygon_locate.f
  repeat' first
      | (with_reducible exact ih0 _ _ _ _ _ _ _)
      | (with_reducible exact ih1 _ _ _ _ _ _ _ _ _ _ _ _ _)
      | (with_reducible exact LeO.refl _)
      | (with_reducible exact LeO.none _)
      | (with_reducible refine LeO.ite ?_ ?_)
      | (with_reducible refine LeO.bind ?_ (fun _ => ?_))
      | exact ih0 _ _ _ _ _ _ _
      | exact ih1 _ _ _ _ _ _ _ _ _ _ _ _ _
      | exact LeO.none _
      | refine LeO.ite ?_ ?_
      | refine LeO.bind ?_ (fun _ => ?_)
set_option maxHeartbeats 8000000 in
set_option maxRecDepth 100000 in
theorem polygon_locate.calls (k : Nat) (A0 : Option Addr) (c0 : Nat) (l0 : List (S36)) (a1_0 : Int) (a1_1 : Int) (r : Int) (w : World) (hr0 : Kd.C k36 w A0 l0.length l0) (hc0 : l0.length ≤ c0) (h : polygon_locate.f k l0 a1_0 a1_1 = some r) :
    Calls Try.prog 73 #[.slice A0 l0.length c0, .agg #[.int .i64 a1_0, .int .i64 a1_1]] w fun e w' => e = .returned (.int .i64 r) ∧ Below w.heap.size w w' := by
 have hu36 := Try.underlying36
 have HR0 := Aside0.mk hr0
 have HC0 := Aside0.mk hc0
 clear hr0 hc0
 have HB := Aside0.mk (Below.refl w.heap.size w)
 have H : (polygon_locate.l0 k l0 (-1) l0 (l0.length : Int) 0 a1_0 a1_1) = some r := h
 clear h
 have H' := Aside0.mk H
 clear H
 go_enter Try.func73, Try.ntmps73
 go_wp2_with (first | ((with_reducible refine gate_dst (N := 3) rfl ?_); refine box_event ?hg (N := 3) ?hd (cs := #[.int .i64 a1_0, .int .i64 a1_1]) (t := 36) ?hr ?_; (case hd => rfl); (case hg => rfl); (case hr => first | (go_simp; done) | (go_simp; rfl)); intro gb221 hg w3 hbox hb; have n0_ := Aside0.mk (below_step (by repeat (first | (with_reducible first | exact HB.out | apply below_alloc | apply pw_below_drewN | apply below_drew1) | exact HB.out)) hb); have n1_ := Aside0.mk (hbox); have n2_ := Aside0.mk ((by rw [hg]; exact (below_size (by repeat (first | (with_reducible first | exact HB.out | apply below_alloc | apply pw_below_drewN | apply below_drew1) | exact HB.out))) : w.heap.size ≤ gb221)); have n3_ := Aside0.mk ((by rw [hg]; exact (below_size (by repeat (first | (with_reducible first | exact HB.out | apply below_alloc | apply pw_below_drewN | apply below_drew1) | exact HB.out))) : w.heap.size ≤ gb221)); clear HB; have HB := n0_; have BK221 := n1_; have GW221 := n2_; have GE221 := n3_; clear n0_ n1_ n2_ n3_; clear hb hbox hg))
 go_loopg [5, 12] k (fun kq v5 v12 w' => ∃ (x5_1 : Int) (x12_1 : Int), v5 = .int .i64 x5_1 ∧ v12 = .int .i64 x12_1 ∧ Aside0 (polygon_locate.l0 kq l0 x5_1 l0 (l0.length : Int) x12_1 a1_0 a1_1 = some r) ∧ Aside0 (kq ≤ k) ∧ Aside0 (w'.heap[gb221]? = some (.cells #[.int .i64 a1_0, .int .i64 a1_1] 36 (0, 0))) ∧ Aside0 (Below w.heap.size w w'))
 case atStart => exact ⟨((-1)), (0), (by first | rfl | (simp; done) | (simp [*]; done)), (by first | rfl | (simp; done) | (simp [*]; done)), H', ⟨Nat.le_refl _⟩, ⟨by (with_reducible repeat (first | refine blk_drewN ?_ _ | refine blk_drew ?_ | refine blk_alloc ?_ _)); exact BK221.out⟩, ⟨by repeat (first | (with_reducible first | exact HB.out | apply below_alloc | apply pw_below_drewN | apply below_drew1 | refine below_set ?_ GE221.out) | exact HB.out)⟩⟩
 case round =>
  clear H'
  (try clear p2)
  obtain ⟨x5_1, x12_1, rfl, rfl, HA, HK1, BK221, HB⟩ := hrel
  cases gk with
  | zero => exact absurd HA.out (by simp [polygon_locate.l0])
  | succ k1 =>
   have H := HA.out
   clear HA
   simp only [polygon_locate.l0] at H
   by_cases c4 : x12_1 < (l0.length : Int)
   · rw [if_pos c4] at H
     have c4b0 : decide (x12_1 < (l0.length : Int)) = true := decide_eq_true c4
     clear c4
     by_cases c5 : 0 ≤ x12_1
     · rw [if_pos c5] at H
       have c5b0 : decide (0 ≤ x12_1) = true := decide_eq_true c5
       clear c5
       by_cases c6 : x12_1 < (l0.length : Int)
       · rw [if_pos c6] at H
         have c6b0 : decide (x12_1 < (l0.length : Int)) = true := decide_eq_true c6
         clear c6
         by_cases c7 : (l0.length : Int) = 0
         · rw [if_pos c7] at H
           exact absurd H (by simp)
         · rw [if_neg c7] at H
           have c7b0 : ((l0.length : Int) == 0) = false := beq_eq_false_iff_ne.mpr c7
           have c7b1 : ((l0.length : Int) != 0) = true := bne_iff_ne.mpr c7
           have c7b2 : ¬ (l0 = []) := fun h_ => c7 (by rw [h_]; rfl)
           obtain ⟨ji8, hji8⟩ : ∃ j_ : Int, (Int.tmod (wrap64 ((wrap64 (x12_1 + (l0.length : Int))) - 1)) (l0.length : Int)) = j_ := ⟨_, rfl⟩
           replace H : (if 0 ≤ (ji8) then (if (ji8) < (l0.length : Int) then ((plane_Turn.f ((rd_T36 l0 (ji8)).f0) ((rd_T36 l0 (ji8)).f1) ((rd_T36 l0 x12_1).f0) ((rd_T36 l0 x12_1).f1) a1_0 a1_1).bind fun t226 => (if t226 = 0 then ((polygon_on.f ((rd_T36 l0 (ji8)).f0) ((rd_T36 l0 (ji8)).f1) ((rd_T36 l0 x12_1).f0) ((rd_T36 l0 x12_1).f1) a1_0 a1_1).bind fun t227 => (polygon_locate.j1 k1 l0 x5_1 t226 l0 (l0.length : Int) x12_1 t227 a1_0 a1_1 ((rd_T36 l0 x12_1).f0) ((rd_T36 l0 x12_1).f1) ((rd_T36 l0 (ji8)).f0) ((rd_T36 l0 (ji8)).f1))) else (polygon_locate.j1 k1 l0 x5_1 t226 l0 (l0.length : Int) x12_1 false a1_0 a1_1 ((rd_T36 l0 x12_1).f0) ((rd_T36 l0 x12_1).f1) ((rd_T36 l0 (ji8)).f0) ((rd_T36 l0 (ji8)).f1)))) else (none)) else (none)) = some r := by first | (rw [hji8] at H; exact H) | (simp only [hji8] at H ⊢; exact H)
           by_cases c9 : 0 ≤ (ji8)
           · rw [if_pos c9] at H
             have c9b0 : decide (0 ≤ (ji8)) = true := decide_eq_true c9
             clear c9
             by_cases c10 : (ji8) < (l0.length : Int)
             · rw [if_pos c10] at H
               have c10b0 : decide ((ji8) < (l0.length : Int)) = true := decide_eq_true c10
               clear c10
               replace H := Option.bind_eq_some_iff.mp H
               obtain ⟨t226, A110, H⟩ := H
               replace H : (if t226 = 0 then ((polygon_on.f ((rd_T36 l0 (ji8)).f0) ((rd_T36 l0 (ji8)).f1) ((rd_T36 l0 x12_1).f0) ((rd_T36 l0 x12_1).f1) a1_0 a1_1).bind fun t227 => (polygon_locate.j1 k1 l0 x5_1 t226 l0 (l0.length : Int) x12_1 t227 a1_0 a1_1 ((rd_T36 l0 x12_1).f0) ((rd_T36 l0 x12_1).f1) ((rd_T36 l0 (ji8)).f0) ((rd_T36 l0 (ji8)).f1))) else (polygon_locate.j1 k1 l0 x5_1 t226 l0 (l0.length : Int) x12_1 false a1_0 a1_1 ((rd_T36 l0 x12_1).f0) ((rd_T36 l0 x12_1).f1) ((rd_T36 l0 (ji8)).f0) ((rd_T36 l0 (ji8)).f1))) = some r := H
               have A11 := Aside0.mk A110
               clear A110
               have HC12 := Aside0.mk H
               clear H
               have p222 : 0 ≤ (x12_1 : Int) := of_decide_eq_true (by first | (with_reducible assumption) | assumption)
               have q222 : x12_1 < (l0.length : Int) := of_decide_eq_true (by first | (with_reducible assumption) | assumption)
               obtain ⟨ad222, e222, hx222_0, hx222_1⟩ := at_T36 HR0.out x12_1 p222 q222
               cases e222
               replace hx222_0 := (HB.out.cell (World.block_lt_of_cell? w _ hx222_0)).trans hx222_0
               replace hx222_1 := (HB.out.cell (World.block_lt_of_cell? w _ hx222_1)).trans hx222_1
               replace p222 := eq_true p222
               replace q222 := eq_true q222
               go_upto_region 7 with (first | ((with_reducible refine gate_dst (N := 7) rfl ?_); refine box_event ?hg (N := 7) ?hd (cs := #[.int .i64 0, .int .i64 0]) (t := 36) ?hr ?_; (case hd => rfl); (case hg => rfl); (case hr => first | (go_simp; done) | (go_simp; rfl)); intro gb223 hg wxec961 hbox hb; have n0_ := Aside0.mk (blk_below (g := gb221) (o := .cells #[.int .i64 a1_0, .int .i64 a1_1] 36 (0, 0)) (by (with_reducible repeat (first | refine blk_drewN ?_ _ | refine blk_drew ?_ | refine blk_alloc ?_ _)); exact BK221.out) hb); have n1_ := Aside0.mk (below_step (by repeat (first | (with_reducible first | exact HB.out | apply below_alloc | apply pw_below_drewN | apply below_drew1 | refine below_set ?_ GE221.out) | exact HB.out)) hb); have n2_ := Aside0.mk (hbox); have n3_ := Aside0.mk ((by rw [hg]; exact (below_size (by repeat (first | (with_reducible first | exact HB.out | apply below_alloc | apply pw_below_drewN | apply below_drew1 | refine below_set ?_ GE221.out) | exact HB.out))) : w.heap.size ≤ gb223)); have n4_ := Aside0.mk ((by rw [hg]; exact (below_size (by repeat (first | (with_reducible first | exact HB.out | apply below_alloc | apply pw_below_drewN | apply below_drew1 | refine below_set ?_ GE221.out) | exact HB.out))) : w.heap.size ≤ gb223)); have n5_ := Aside0.mk ((by rw [hg]; exact Nat.ne_of_lt (blk_lt (g := gb221) (o := .cells #[.int .i64 a1_0, .int .i64 a1_1] 36 (0, 0)) (by (with_reducible repeat (first | refine blk_drewN ?_ _ | refine blk_drew ?_ | refine blk_alloc ?_ _)); exact BK221.out)) : gb221 ≠ gb223)); have n6_ := Aside0.mk ((by rw [hg]; exact Nat.ne_of_gt (blk_lt (g := gb221) (o := .cells #[.int .i64 a1_0, .int .i64 a1_1] 36 (0, 0)) (by (with_reducible repeat (first | refine blk_drewN ?_ _ | refine blk_drew ?_ | refine blk_alloc ?_ _)); exact BK221.out)) : gb223 ≠ gb221)); clear BK221; clear HB; have BK221 := n0_; have HB := n1_; have BK223 := n2_; have GW223 := n3_; have GE223 := n4_; have NB221_223 := n5_; have NB223_221 := n6_; clear n0_ n1_ n2_ n3_ n4_ n5_ n6_; clear hb hbox hg; have hnbxec961 := NB223_221.out; have hncxec961 := NB221_223.out; have hczxec961 : wxec961.cell? ⟨gb223, 0, none⟩ = some (.int .i64 0) := (blk_cell BK223.out 0).trans rfl; have hczxec962 : wxec961.cell? ⟨gb223, 1, none⟩ = some (.int .i64 0) := (blk_cell BK223.out 1).trans rfl; have hfzxec961 := blk_frozen BK223.out 0; have hfzxec962 := blk_frozen BK223.out 1; have p224 : 0 ≤ ((ji8) : Int) := of_decide_eq_true (by first | (with_reducible assumption) | assumption); have q224 : (ji8) < (l0.length : Int) := of_decide_eq_true (by first | (with_reducible assumption) | assumption); obtain ⟨ad224, e224, hx224_0, hx224_1⟩ := at_T36 HR0.out (ji8) p224 q224; obtain rfl : ad222 = ad224 := (by injection e224); have hn224_0 : ad222.block ≠ gb223 := Nat.ne_of_lt (Nat.lt_of_lt_of_le (by have := World.block_lt_of_cell? _ _ hx224_0; first | rwa [add_block] at this | exact this) GW223.out); have hn224_1 : ad222.block ≠ gb223 := Nat.ne_of_lt (Nat.lt_of_lt_of_le (by have := World.block_lt_of_cell? _ _ hx224_0; first | rwa [add_block] at this | exact this) GW223.out); replace hx224_0 := (HB.out.cell (World.block_lt_of_cell? w _ hx224_0)).trans hx224_0; replace hx224_1 := (HB.out.cell (World.block_lt_of_cell? w _ hx224_1)).trans hx224_1; replace hx224_0 := (cell_far (p := ⟨gb223, 0, none⟩) (by first | (rw [add_block]; exact hn224_0) | (show (Addr.add _ _).block ≠ _; rw [add_block]; exact hn224_0) | exact hn224_0) (.int .i64 ((rd_T36 l0 x12_1).f0))).trans hx224_0; replace hx224_1 := (cell_far (p := ⟨gb223, 0, none⟩) (by first | (rw [add_block]; exact hn224_0) | (show (Addr.add _ _).block ≠ _; rw [add_block]; exact hn224_0) | exact hn224_0) (.int .i64 ((rd_T36 l0 x12_1).f0))).trans hx224_1; replace hx224_0 := (cell_far (p := ⟨gb223, 1, none⟩) (by first | (rw [add_block]; exact hn224_1) | (show (Addr.add _ _).block ≠ _; rw [add_block]; exact hn224_1) | exact hn224_1) (.int .i64 ((rd_T36 l0 x12_1).f1))).trans hx224_0; replace hx224_1 := (cell_far (p := ⟨gb223, 1, none⟩) (by first | (rw [add_block]; exact hn224_1) | (show (Addr.add _ _).block ≠ _; rw [add_block]; exact hn224_1) | exact hn224_1) (.int .i64 ((rd_T36 l0 x12_1).f1))).trans hx224_1; clear hn224_0; clear hn224_1; replace p224 := eq_true p224; replace q224 := eq_true q224) | ((with_reducible refine gate_dst (N := 8) rfl ?_); refine box_event ?hg (N := 8) ?hd (cs := #[.int .i64 0, .int .i64 0]) (t := 36) ?hr ?_; (case hd => rfl); (case hg => rfl); (case hr => first | (go_simp; done) | (go_simp; rfl)); intro gb225 hg wx28881 hbox hb; have n0_ := Aside0.mk (blk_below (g := gb221) (o := .cells #[.int .i64 a1_0, .int .i64 a1_1] 36 (0, 0)) (by (with_reducible repeat (first | refine blk_drewN ?_ _ | refine blk_drew ?_ | refine blk_alloc ?_ _)); refine blk_far ?_ NB221_223.out _; (with_reducible repeat (first | refine blk_drewN ?_ _ | refine blk_drew ?_ | refine blk_alloc ?_ _)); refine blk_far ?_ NB221_223.out _; (with_reducible repeat (first | refine blk_drewN ?_ _ | refine blk_drew ?_ | refine blk_alloc ?_ _)); exact BK221.out) hb); have n1_ := Aside0.mk (blk_below (g := gb223) (o := .cells #[.int .i64 ((rd_T36 l0 x12_1).f0), .int .i64 ((rd_T36 l0 x12_1).f1)] 36 (0, 0)) (by (with_reducible repeat (first | refine blk_drewN ?_ _ | refine blk_drew ?_ | refine blk_alloc ?_ _)); refine blk_put (cs := #[.int .i64 ((rd_T36 l0 x12_1).f0), .int .i64 0]) ?_ 1 _ rfl; (with_reducible repeat (first | refine blk_drewN ?_ _ | refine blk_drew ?_ | refine blk_alloc ?_ _)); refine blk_put (cs := #[.int .i64 0, .int .i64 0]) ?_ 0 _ rfl; (with_reducible repeat (first | refine blk_drewN ?_ _ | refine blk_drew ?_ | refine blk_alloc ?_ _)); exact BK223.out) hb); have n2_ := Aside0.mk (below_step (by repeat (first | (with_reducible first | exact HB.out | apply below_alloc | apply pw_below_drewN | apply below_drew1 | refine below_set ?_ GE221.out | refine below_set ?_ GE223.out) | exact HB.out)) hb); have n3_ := Aside0.mk (hbox); have n4_ := Aside0.mk ((by rw [hg]; exact (below_size (by repeat (first | (with_reducible first | exact HB.out | apply below_alloc | apply pw_below_drewN | apply below_drew1 | refine below_set ?_ GE221.out | refine below_set ?_ GE223.out) | exact HB.out))) : w.heap.size ≤ gb225)); have n5_ := Aside0.mk ((by rw [hg]; exact (below_size (by repeat (first | (with_reducible first | exact HB.out | apply below_alloc | apply pw_below_drewN | apply below_drew1 | refine below_set ?_ GE221.out | refine below_set ?_ GE223.out) | exact HB.out))) : w.heap.size ≤ gb225)); have n6_ := Aside0.mk ((by rw [hg]; exact Nat.ne_of_lt (blk_lt (g := gb221) (o := .cells #[.int .i64 a1_0, .int .i64 a1_1] 36 (0, 0)) (by (with_reducible repeat (first | refine blk_drewN ?_ _ | refine blk_drew ?_ | refine blk_alloc ?_ _)); refine blk_far ?_ NB221_223.out _; (with_reducible repeat (first | refine blk_drewN ?_ _ | refine blk_drew ?_ | refine blk_alloc ?_ _)); refine blk_far ?_ NB221_223.out _; (with_reducible repeat (first | refine blk_drewN ?_ _ | refine blk_drew ?_ | refine blk_alloc ?_ _)); exact BK221.out)) : gb221 ≠ gb225)); have n7_ := Aside0.mk ((by rw [hg]; exact Nat.ne_of_gt (blk_lt (g := gb221) (o := .cells #[.int .i64 a1_0, .int .i64 a1_1] 36 (0, 0)) (by (with_reducible repeat (first | refine blk_drewN ?_ _ | refine blk_drew ?_ | refine blk_alloc ?_ _)); refine blk_far ?_ NB221_223.out _; (with_reducible repeat (first | refine blk_drewN ?_ _ | refine blk_drew ?_ | refine blk_alloc ?_ _)); refine blk_far ?_ NB221_223.out _; (with_reducible repeat (first | refine blk_drewN ?_ _ | refine blk_drew ?_ | refine blk_alloc ?_ _)); exact BK221.out)) : gb225 ≠ gb221)); have n8_ := Aside0.mk ((by rw [hg]; exact Nat.ne_of_lt (blk_lt (g := gb223) (o := .cells #[.int .i64 ((rd_T36 l0 x12_1).f0), .int .i64 ((rd_T36 l0 x12_1).f1)] 36 (0, 0)) (by (with_reducible repeat (first | refine blk_drewN ?_ _ | refine blk_drew ?_ | refine blk_alloc ?_ _)); refine blk_put (cs := #[.int .i64 ((rd_T36 l0 x12_1).f0), .int .i64 0]) ?_ 1 _ rfl; (with_reducible repeat (first | refine blk_drewN ?_ _ | refine blk_drew ?_ | refine blk_alloc ?_ _)); refine blk_put (cs := #[.int .i64 0, .int .i64 0]) ?_ 0 _ rfl; (with_reducible repeat (first | refine blk_drewN ?_ _ | refine blk_drew ?_ | refine blk_alloc ?_ _)); exact BK223.out)) : gb223 ≠ gb225)); have n9_ := Aside0.mk ((by rw [hg]; exact Nat.ne_of_gt (blk_lt (g := gb223) (o := .cells #[.int .i64 ((rd_T36 l0 x12_1).f0), .int .i64 ((rd_T36 l0 x12_1).f1)] 36 (0, 0)) (by (with_reducible repeat (first | refine blk_drewN ?_ _ | refine blk_drew ?_ | refine blk_alloc ?_ _)); refine blk_put (cs := #[.int .i64 ((rd_T36 l0 x12_1).f0), .int .i64 0]) ?_ 1 _ rfl; (with_reducible repeat (first | refine blk_drewN ?_ _ | refine blk_drew ?_ | refine blk_alloc ?_ _)); refine blk_put (cs := #[.int .i64 0, .int .i64 0]) ?_ 0 _ rfl; (with_reducible repeat (first | refine blk_drewN ?_ _ | refine blk_drew ?_ | refine blk_alloc ?_ _)); exact BK223.out)) : gb225 ≠ gb223)); clear BK221; clear BK223; clear HB; have BK221 := n0_; have BK223 := n1_; have HB := n2_; have BK225 := n3_; have GW225 := n4_; have GE225 := n5_; have NB221_225 := n6_; have NB225_221 := n7_; have NB223_225 := n8_; have NB225_223 := n9_; clear n0_ n1_ n2_ n3_ n4_ n5_ n6_ n7_ n8_ n9_; clear hb hbox hg; have hnbx28881 := NB225_221.out; have hncx28881 := NB221_225.out; have hnbx28882 := NB225_223.out; have hncx28882 := NB223_225.out; have hczx28881 : wx28881.cell? ⟨gb225, 0, none⟩ = some (.int .i64 0) := (blk_cell BK225.out 0).trans rfl; have hczx28882 : wx28881.cell? ⟨gb225, 1, none⟩ = some (.int .i64 0) := (blk_cell BK225.out 1).trans rfl; have hfzx28881 := blk_frozen BK225.out 0; have hfzx28882 := blk_frozen BK225.out 1; have hczx28883 : wx28881.cell? ⟨gb223, 0, none⟩ = some (.int .i64 ((rd_T36 l0 x12_1).f0)) := (blk_cell BK223.out 0).trans rfl; have hczx28884 : wx28881.cell? ⟨gb223, 1, none⟩ = some (.int .i64 ((rd_T36 l0 x12_1).f1)) := (blk_cell BK223.out 1).trans rfl; have hfzx28883 := blk_frozen BK223.out 0; have hfzx28884 := blk_frozen BK223.out 1; have hczx28885 : wx28881.cell? ⟨gb221, 0, none⟩ = some (.int .i64 a1_0) := (blk_cell BK221.out 0).trans rfl; have hczx28886 : wx28881.cell? ⟨gb221, 1, none⟩ = some (.int .i64 a1_1) := (blk_cell BK221.out 1).trans rfl; have hfzx28885 := blk_frozen BK221.out 0; have hfzx28886 := blk_frozen BK221.out 1) | ((with_reducible refine gate_callee (f := 106) rfl ?_); refine goesL_ (some 31) rfl rfl Try.func106 (by kernel_rfl) rfl #[.agg #[.int .i64 ((rd_T36 l0 (ji8)).f0), .int .i64 ((rd_T36 l0 (ji8)).f1)], .agg #[.int .i64 ((rd_T36 l0 x12_1).f0), .int .i64 ((rd_T36 l0 x12_1).f1)], .agg #[.int .i64 a1_0, .int .i64 a1_1]] rfl (by (try simp only [List.map_toArray, List.map_cons, List.map_nil]); first | done | (simp only [hji8]; rfl) | rfl | (simp only [List.length_drop, List.length_take]; rfl)) ?_; (with_reducible refine (plane_Turn.calls ((rd_T36 l0 (ji8)).f0) ((rd_T36 l0 (ji8)).f1) ((rd_T36 l0 x12_1).f0) ((rd_T36 l0 x12_1).f1) a1_0 a1_1 t226 _ A11.out).mono ?_); rintro e wx3d281 ⟨rfl, hb⟩; refine ⟨_, rfl, ?_⟩; have n0_ := Aside0.mk (blk_below (g := gb221) (o := .cells #[.int .i64 a1_0, .int .i64 a1_1] 36 (0, 0)) (by (with_reducible repeat (first | refine blk_drewN ?_ _ | refine blk_drew ?_ | refine blk_alloc ?_ _)); refine blk_far ?_ NB221_225.out _; (with_reducible repeat (first | refine blk_drewN ?_ _ | refine blk_drew ?_ | refine blk_alloc ?_ _)); refine blk_far ?_ NB221_225.out _; (with_reducible repeat (first | refine blk_drewN ?_ _ | refine blk_drew ?_ | refine blk_alloc ?_ _)); exact BK221.out) hb); have n1_ := Aside0.mk (blk_below (g := gb223) (o := .cells #[.int .i64 ((rd_T36 l0 x12_1).f0), .int .i64 ((rd_T36 l0 x12_1).f1)] 36 (0, 0)) (by (with_reducible repeat (first | refine blk_drewN ?_ _ | refine blk_drew ?_ | refine blk_alloc ?_ _)); refine blk_far ?_ NB223_225.out _; (with_reducible repeat (first | refine blk_drewN ?_ _ | refine blk_drew ?_ | refine blk_alloc ?_ _)); refine blk_far ?_ NB223_225.out _; (with_reducible repeat (first | refine blk_drewN ?_ _ | refine blk_drew ?_ | refine blk_alloc ?_ _)); exact BK223.out) hb); have n2_ := Aside0.mk (blk_below (g := gb225) (o := .cells #[.int .i64 ((rd_T36 l0 (ji8)).f0), .int .i64 ((rd_T36 l0 (ji8)).f1)] 36 (0, 0)) (by (with_reducible repeat (first | refine blk_drewN ?_ _ | refine blk_drew ?_ | refine blk_alloc ?_ _)); refine blk_put (cs := #[.int .i64 ((rd_T36 l0 (ji8)).f0), .int .i64 0]) ?_ 1 _ rfl; (with_reducible repeat (first | refine blk_drewN ?_ _ | refine blk_drew ?_ | refine blk_alloc ?_ _)); refine blk_put (cs := #[.int .i64 0, .int .i64 0]) ?_ 0 _ rfl; (with_reducible repeat (first | refine blk_drewN ?_ _ | refine blk_drew ?_ | refine blk_alloc ?_ _)); exact BK225.out) hb); have n3_ := Aside0.mk (below_step (by repeat (first | (with_reducible first | exact HB.out | apply below_alloc | apply pw_below_drewN | apply below_drew1 | refine below_set ?_ GE221.out | refine below_set ?_ GE223.out | refine below_set ?_ GE225.out) | exact HB.out)) hb); clear BK221; clear BK223; clear BK225; clear HB; have BK221 := n0_; have BK223 := n1_; have BK225 := n2_; have HB := n3_; clear n0_ n1_ n2_ n3_; (try clear hb); (try clear hb2); (try clear hk); (try clear hi)))
               (try simp only [Act.put, List.setIfInBounds_toArray, List.set_cons_zero, List.set_cons_succ])
               go_cut [39] (fun v39 wc => ∃ (kq : Nat) (x39_11 : Bool), v39 = .bool x39_11 ∧ Aside0 (polygon_locate.j1 kq l0 x5_1 t226 l0 (l0.length : Int) x12_1 x39_11 a1_0 a1_1 ((rd_T36 l0 x12_1).f0) ((rd_T36 l0 x12_1).f1) ((rd_T36 l0 (ji8)).f0) ((rd_T36 l0 (ji8)).f1) = some r) ∧ Aside0 (kq ≤ k1) ∧ Aside0 (wc.heap[gb221]? = some (.cells #[.int .i64 a1_0, .int .i64 a1_1] 36 (0, 0))) ∧ Aside0 (wc.heap[gb223]? = some (.cells #[.int .i64 ((rd_T36 l0 x12_1).f0), .int .i64 ((rd_T36 l0 x12_1).f1)] 36 (0, 0))) ∧ Aside0 (wc.heap[gb225]? = some (.cells #[.int .i64 ((rd_T36 l0 (ji8)).f0), .int .i64 ((rd_T36 l0 (ji8)).f1)] 36 (0, 0))) ∧ Aside0 (Below w.heap.size w wc))
               case first =>
                have H := HC12.out
                clear HC12
                refine Or.elim (Classical.em (t226 = 0)) (fun c23 => ?p2_) (fun c23 => ?n2_)
                case' p2_ =>
                 rw [if_pos c23] at H
                 have c23b0 : (t226 == 0) = true := beq_iff_eq.mpr c23
                 have c23b1 : (t226 != 0) = false := bne_eq_false_iff_eq.mpr c23
                 clear c23
                 (first | rw [c23b0] | (simp only [i64_w, i32_w]; rw [c23b0]) | skip)
                 replace H := Option.bind_eq_some_iff.mp H
                 obtain ⟨t227, A240, H⟩ := H
                 replace H : (polygon_locate.j1 k1 l0 x5_1 t226 l0 (l0.length : Int) x12_1 t227 a1_0 a1_1 ((rd_T36 l0 x12_1).f0) ((rd_T36 l0 x12_1).f1) ((rd_T36 l0 (ji8)).f0) ((rd_T36 l0 (ji8)).f1)) = some r := H
                 have A24 := Aside0.mk A240
                 clear A240
                 have hm1_0 := Aside0.mk trivial
                case' n2_ =>
                 rw [if_neg c23] at H
                 have c23b0 : (t226 == 0) = false := beq_eq_false_iff_ne.mpr c23
                 have c23b1 : (t226 != 0) = true := bne_iff_ne.mpr c23
                 (first | rw [c23b0] | (simp only [i64_w, i32_w]; rw [c23b0]) | skip)
                 have hm1_1 := Aside0.mk trivial
                all_goals
                 have H' := Aside0.mk H
                 clear H
                 first
                  | clear hm1_0
                    have hnbzd1 := NB225_221.out
                    have hnczd1 := NB221_225.out
                    have hnbzd2 := NB225_223.out
                    have hnczd2 := NB223_225.out
                    have hczzd1 : wx3d281.cell? ⟨gb225, 0, none⟩ = some (.int .i64 ((rd_T36 l0 (ji8)).f0)) := (blk_cell BK225.out 0).trans rfl
                    have hczzd2 : wx3d281.cell? ⟨gb225, 1, none⟩ = some (.int .i64 ((rd_T36 l0 (ji8)).f1)) := (blk_cell BK225.out 1).trans rfl
                    have hfzzd1 := blk_frozen BK225.out 0
                    have hfzzd2 := blk_frozen BK225.out 1
                    have hnbzd3 := NB223_221.out
                    have hnczd3 := NB221_223.out
                    have hczzd3 : wx3d281.cell? ⟨gb223, 0, none⟩ = some (.int .i64 ((rd_T36 l0 x12_1).f0)) := (blk_cell BK223.out 0).trans rfl
                    have hczzd4 : wx3d281.cell? ⟨gb223, 1, none⟩ = some (.int .i64 ((rd_T36 l0 x12_1).f1)) := (blk_cell BK223.out 1).trans rfl
                    have hfzzd3 := blk_frozen BK223.out 0
                    have hfzzd4 := blk_frozen BK223.out 1
                    have hczzd5 : wx3d281.cell? ⟨gb221, 0, none⟩ = some (.int .i64 a1_0) := (blk_cell BK221.out 0).trans rfl
                    have hczzd6 : wx3d281.cell? ⟨gb221, 1, none⟩ = some (.int .i64 a1_1) := (blk_cell BK221.out 1).trans rfl
                    have hfzzd5 := blk_frozen BK221.out 0
                    have hfzzd6 := blk_frozen BK221.out 1
                    go_wp2_with (first | (go_at_call 108; (with_reducible refine (polygon_on.calls ((rd_T36 l0 (ji8)).f0) ((rd_T36 l0 (ji8)).f1) ((rd_T36 l0 x12_1).f0) ((rd_T36 l0 x12_1).f1) a1_0 a1_1 t227 _ A24.out).mono ?_); rintro e wxa5311 ⟨rfl, hb⟩; have n0_ := Aside0.mk (blk_below (g := gb221) (o := .cells #[.int .i64 a1_0, .int .i64 a1_1] 36 (0, 0)) (by (with_reducible repeat (first | refine blk_drewN ?_ _ | refine blk_drew ?_ | refine blk_alloc ?_ _)); exact BK221.out) hb); have n1_ := Aside0.mk (blk_below (g := gb223) (o := .cells #[.int .i64 ((rd_T36 l0 x12_1).f0), .int .i64 ((rd_T36 l0 x12_1).f1)] 36 (0, 0)) (by (with_reducible repeat (first | refine blk_drewN ?_ _ | refine blk_drew ?_ | refine blk_alloc ?_ _)); exact BK223.out) hb); have n2_ := Aside0.mk (blk_below (g := gb225) (o := .cells #[.int .i64 ((rd_T36 l0 (ji8)).f0), .int .i64 ((rd_T36 l0 (ji8)).f1)] 36 (0, 0)) (by (with_reducible repeat (first | refine blk_drewN ?_ _ | refine blk_drew ?_ | refine blk_alloc ?_ _)); exact BK225.out) hb); have n3_ := Aside0.mk (below_step (by repeat (first | (with_reducible first | exact HB.out | apply below_alloc | apply pw_below_drewN | apply below_drew1 | refine below_set ?_ GE221.out | refine below_set ?_ GE223.out | refine below_set ?_ GE225.out) | exact HB.out)) hb); clear BK221; clear BK223; clear BK225; clear HB; have BK221 := n0_; have BK223 := n1_; have BK225 := n2_; have HB := n3_; clear n0_ n1_ n2_ n3_; (try clear hb); (try clear hb2); (try clear hk); (try clear hi)))
                    go_meet
                    case rel => exact ⟨_, (t227), (by first | rfl | (simp; done) | (simp [*]; done)), H', ⟨by have := HK1.out; first | omega | exact Nat.le_refl _⟩, ⟨by (with_reducible repeat (first | refine blk_drewN ?_ _ | refine blk_drew ?_ | refine blk_alloc ?_ _)); exact BK221.out⟩, ⟨by (with_reducible repeat (first | refine blk_drewN ?_ _ | refine blk_drew ?_ | refine blk_alloc ?_ _)); exact BK223.out⟩, ⟨by (with_reducible repeat (first | refine blk_drewN ?_ _ | refine blk_drew ?_ | refine blk_alloc ?_ _)); exact BK225.out⟩, ⟨by repeat (first | (with_reducible first | exact HB.out | apply below_alloc | apply pw_below_drewN | apply below_drew1 | refine below_set ?_ GE221.out | refine below_set ?_ GE223.out | refine below_set ?_ GE225.out) | exact HB.out)⟩⟩
                  | clear hm1_1
                    go_wp2
                    go_meet
                    case rel => exact ⟨_, (false), (by first | rfl | (simp; done) | (simp [*]; done)), H', ⟨by have := HK1.out; first | omega | exact Nat.le_refl _⟩, ⟨by (with_reducible repeat (first | refine blk_drewN ?_ _ | refine blk_drew ?_ | refine blk_alloc ?_ _)); exact BK221.out⟩, ⟨by (with_reducible repeat (first | refine blk_drewN ?_ _ | refine blk_drew ?_ | refine blk_alloc ?_ _)); exact BK223.out⟩, ⟨by (with_reducible repeat (first | refine blk_drewN ?_ _ | refine blk_drew ?_ | refine blk_alloc ?_ _)); exact BK225.out⟩, ⟨by repeat (first | (with_reducible first | exact HB.out | apply below_alloc | apply pw_below_drewN | apply below_drew1 | refine below_set ?_ GE221.out | refine below_set ?_ GE223.out | refine below_set ?_ GE225.out) | exact HB.out)⟩⟩
               case rest =>
                clear HC12
                (try clear c1); (try clear c2); (try clear p2); (try clear q2); (try clear hx2); (try clear c4); (try clear c4b0); (try clear c5); (try clear c5b0); (try clear c6); (try clear c6b0); (try clear p6); (try clear c7); (try clear c7b0); (try clear c7b1); (try clear c7b2); (try clear c9); (try clear c9b0); (try clear c10); (try clear c10b0); (try clear c14); (try clear c17); (try clear c18); (try clear p22); (try clear q22); (try clear hx22); (try clear c23); (try clear c23b0); (try clear c23b1); (try clear c25); (try clear c26); (try clear c28); (try clear hczxec961); (try clear hczxec962); (try clear hczx28881); (try clear hczx28882); (try clear hczx28883); (try clear hczx28884); (try clear hczx28885); (try clear hczx28886)
                (try clear hczzc1); (try clear hczzc2); (try clear hczzc3); (try clear hczzc4); (try clear hczzc5); (try clear hczzc6); (try clear hfzxec961); (try clear hfzxec962); (try clear hfzx28881); (try clear hfzx28882); (try clear hfzx28883); (try clear hfzx28884); (try clear hfzx28885); (try clear hfzx28886); (try clear hfzzc1); (try clear hfzzc2); (try clear hfzzc3); (try clear hfzzc4); (try clear hfzzc5); (try clear hfzzc6); (try clear hx222_0); (try clear hx222_1); (try clear hx224_0); (try clear hx224_1); (try clear p2); (try clear p222); (try clear p224); (try clear q222); (try clear q224)
                obtain ⟨kq, x39_11, rfl, HA, HJ11, BK221, BK223, BK225, HB⟩ := hcut
                cases kq with
                | zero => exact absurd HA.out (by simp [polygon_locate.j1])
                | succ kj11 =>
                 have H := HA.out
                 clear HA
                 simp only [polygon_locate.j1] at H
                 refine Or.elim (Classical.em (x39_11 = true)) (fun c32 => ?p4_) (fun c32 => ?n4_)
                 case' p4_ =>
                  subst c32
                  have H1 : (some 0) = some r := by rw [if_pos rfl] at H; exact H
                  clear H
                  have H := H1
                  clear H1
                  have hm3_0 := Aside0.mk trivial
                 case' n4_ =>
                  replace c32 := Bool.eq_false_iff.mpr c32
                  subst c32
                  have H1 : (if ((rd_T36 l0 (ji8)).f1) ≤ a1_1 then (if a1_1 < ((rd_T36 l0 x12_1).f1) then (if t226 > 0 then (polygon_locate.l0 kj11 l0 (wrap64 (-x5_1)) l0 (l0.length : Int) (wrap64 (x12_1 + 1)) a1_0 a1_1) else (if ((rd_T36 l0 x12_1).f1) ≤ a1_1 then (if a1_1 < ((rd_T36 l0 (ji8)).f1) then (if t226 < 0 then (polygon_locate.l0 kj11 l0 (wrap64 (-x5_1)) l0 (l0.length : Int) (wrap64 (x12_1 + 1)) a1_0 a1_1) else (polygon_locate.l0 kj11 l0 x5_1 l0 (l0.length : Int) (wrap64 (x12_1 + 1)) a1_0 a1_1)) else (polygon_locate.l0 kj11 l0 x5_1 l0 (l0.length : Int) (wrap64 (x12_1 + 1)) a1_0 a1_1)) else (polygon_locate.l0 kj11 l0 x5_1 l0 (l0.length : Int) (wrap64 (x12_1 + 1)) a1_0 a1_1))) else (if ((rd_T36 l0 x12_1).f1) ≤ a1_1 then (if a1_1 < ((rd_T36 l0 (ji8)).f1) then (if t226 < 0 then (polygon_locate.l0 kj11 l0 (wrap64 (-x5_1)) l0 (l0.length : Int) (wrap64 (x12_1 + 1)) a1_0 a1_1) else (polygon_locate.l0 kj11 l0 x5_1 l0 (l0.length : Int) (wrap64 (x12_1 + 1)) a1_0 a1_1)) else (polygon_locate.l0 kj11 l0 x5_1 l0 (l0.length : Int) (wrap64 (x12_1 + 1)) a1_0 a1_1)) else (polygon_locate.l0 kj11 l0 x5_1 l0 (l0.length : Int) (wrap64 (x12_1 + 1)) a1_0 a1_1))) else (if ((rd_T36 l0 x12_1).f1) ≤ a1_1 then (if a1_1 < ((rd_T36 l0 (ji8)).f1) then (if t226 < 0 then (polygon_locate.l0 kj11 l0 (wrap64 (-x5_1)) l0 (l0.length : Int) (wrap64 (x12_1 + 1)) a1_0 a1_1) else (polygon_locate.l0 kj11 l0 x5_1 l0 (l0.length : Int) (wrap64 (x12_1 + 1)) a1_0 a1_1)) else (polygon_locate.l0 kj11 l0 x5_1 l0 (l0.length : Int) (wrap64 (x12_1 + 1)) a1_0 a1_1)) else (polygon_locate.l0 kj11 l0 x5_1 l0 (l0.length : Int) (wrap64 (x12_1 + 1)) a1_0 a1_1))) = some r := by rw [if_neg (show ¬ (false = true) by decide)] at H; exact H
                  clear H
                  have H := H1
                  clear H1
                  refine Or.elim (Classical.em (((rd_T36 l0 (ji8)).f1) ≤ a1_1)) (fun c33 => ?p5_) (fun c33 => ?n5_)
                  case' p5_ =>
                   rw [if_pos c33] at H
                   have c33b0 : decide (((rd_T36 l0 (ji8)).f1) ≤ a1_1) = true := decide_eq_true c33
                   clear c33
                   refine Or.elim (Classical.em (a1_1 < ((rd_T36 l0 x12_1).f1))) (fun c34 => ?p6_) (fun c34 => ?n6_)
                   case' p6_ =>
                    rw [if_pos c34] at H
                    have c34b0 : decide (a1_1 < ((rd_T36 l0 x12_1).f1)) = true := decide_eq_true c34
                    clear c34
                    refine Or.elim (Classical.em (t226 > 0)) (fun c35 => ?p7_) (fun c35 => ?n7_)
                    case' p7_ =>
                     rw [if_pos c35] at H
                     have c35b0 : decide (0 < t226) = true := decide_eq_true c35
                     clear c35
                     have hm3_1 := Aside0.mk trivial
                    case' n7_ =>
                     rw [if_neg c35] at H
                     have c35b0 : decide (0 < t226) = false := decide_eq_false c35
                     clear c35
                     refine Or.elim (Classical.em (((rd_T36 l0 x12_1).f1) ≤ a1_1)) (fun c42 => ?p8_) (fun c42 => ?n8_)
                     case' p8_ =>
                      rw [if_pos c42] at H
                      have c42b0 : decide (((rd_T36 l0 x12_1).f1) ≤ a1_1) = true := decide_eq_true c42
                      clear c42
                      refine Or.elim (Classical.em (a1_1 < ((rd_T36 l0 (ji8)).f1))) (fun c43 => ?p9_) (fun c43 => ?n9_)
                      case' p9_ =>
                       rw [if_pos c43] at H
                       have c43b0 : decide (a1_1 < ((rd_T36 l0 (ji8)).f1)) = true := decide_eq_true c43
                       clear c43
                       refine Or.elim (Classical.em (t226 < 0)) (fun c44 => ?p10_) (fun c44 => ?n10_)
                       case' p10_ =>
                        rw [if_pos c44] at H
                        have c44b0 : decide (t226 < 0) = true := decide_eq_true c44
                        clear c44
                        have hm3_1 := Aside0.mk trivial
                       case' n10_ =>
                        rw [if_neg c44] at H
                        have c44b0 : decide (t226 < 0) = false := decide_eq_false c44
                        clear c44
                        have hm3_1 := Aside0.mk trivial
                      case' n9_ =>
                       rw [if_neg c43] at H
                       have c43b0 : decide (a1_1 < ((rd_T36 l0 (ji8)).f1)) = false := decide_eq_false c43
                       clear c43
                       have hm3_1 := Aside0.mk trivial
                     case' n8_ =>
                      rw [if_neg c42] at H
                      have c42b0 : decide (((rd_T36 l0 x12_1).f1) ≤ a1_1) = false := decide_eq_false c42
                      clear c42
                      have hm3_1 := Aside0.mk trivial
                   case' n6_ =>
                    rw [if_neg c34] at H
                    have c34b0 : decide (a1_1 < ((rd_T36 l0 x12_1).f1)) = false := decide_eq_false c34
                    clear c34
                    refine Or.elim (Classical.em (((rd_T36 l0 x12_1).f1) ≤ a1_1)) (fun c69 => ?p11_) (fun c69 => ?n11_)
                    case' p11_ =>
                     rw [if_pos c69] at H
                     have c69b0 : decide (((rd_T36 l0 x12_1).f1) ≤ a1_1) = true := decide_eq_true c69
                     clear c69
                     refine Or.elim (Classical.em (a1_1 < ((rd_T36 l0 (ji8)).f1))) (fun c70 => ?p12_) (fun c70 => ?n12_)
                     case' p12_ =>
                      rw [if_pos c70] at H
                      have c70b0 : decide (a1_1 < ((rd_T36 l0 (ji8)).f1)) = true := decide_eq_true c70
                      clear c70
                      refine Or.elim (Classical.em (t226 < 0)) (fun c71 => ?p13_) (fun c71 => ?n13_)
                      case' p13_ =>
                       rw [if_pos c71] at H
                       have c71b0 : decide (t226 < 0) = true := decide_eq_true c71
                       clear c71
                       have hm3_1 := Aside0.mk trivial
                      case' n13_ =>
                       rw [if_neg c71] at H
                       have c71b0 : decide (t226 < 0) = false := decide_eq_false c71
                       clear c71
                       have hm3_1 := Aside0.mk trivial
                     case' n12_ =>
                      rw [if_neg c70] at H
                      have c70b0 : decide (a1_1 < ((rd_T36 l0 (ji8)).f1)) = false := decide_eq_false c70
                      clear c70
                      have hm3_1 := Aside0.mk trivial
                    case' n11_ =>
                     rw [if_neg c69] at H
                     have c69b0 : decide (((rd_T36 l0 x12_1).f1) ≤ a1_1) = false := decide_eq_false c69
                     clear c69
                     have hm3_1 := Aside0.mk trivial
                  case' n5_ =>
                   rw [if_neg c33] at H
                   have c33b0 : decide (((rd_T36 l0 (ji8)).f1) ≤ a1_1) = false := decide_eq_false c33
                   clear c33
                   refine Or.elim (Classical.em (((rd_T36 l0 x12_1).f1) ≤ a1_1)) (fun c96 => ?p14_) (fun c96 => ?n14_)
                   case' p14_ =>
                    rw [if_pos c96] at H
                    have c96b0 : decide (((rd_T36 l0 x12_1).f1) ≤ a1_1) = true := decide_eq_true c96
                    clear c96
                    refine Or.elim (Classical.em (a1_1 < ((rd_T36 l0 (ji8)).f1))) (fun c97 => ?p15_) (fun c97 => ?n15_)
                    case' p15_ =>
                     rw [if_pos c97] at H
                     have c97b0 : decide (a1_1 < ((rd_T36 l0 (ji8)).f1)) = true := decide_eq_true c97
                     clear c97
                     refine Or.elim (Classical.em (t226 < 0)) (fun c98 => ?p16_) (fun c98 => ?n16_)
                     case' p16_ =>
                      rw [if_pos c98] at H
                      have c98b0 : decide (t226 < 0) = true := decide_eq_true c98
                      clear c98
                      have hm3_1 := Aside0.mk trivial
                     case' n16_ =>
                      rw [if_neg c98] at H
                      have c98b0 : decide (t226 < 0) = false := decide_eq_false c98
                      clear c98
                      have hm3_1 := Aside0.mk trivial
                    case' n15_ =>
                     rw [if_neg c97] at H
                     have c97b0 : decide (a1_1 < ((rd_T36 l0 (ji8)).f1)) = false := decide_eq_false c97
                     clear c97
                     have hm3_1 := Aside0.mk trivial
                   case' n14_ =>
                    rw [if_neg c96] at H
                    have c96b0 : decide (((rd_T36 l0 x12_1).f1) ≤ a1_1) = false := decide_eq_false c96
                    clear c96
                    have hm3_1 := Aside0.mk trivial
                 all_goals
                  first
                   | clear hm3_0
                     obtain rfl := Option.some.inj H
                     go_wp2
                     go_ret
                     exact ⟨by first | rfl | (simp [errW_none, errW_some] <;> rfl) | (simp only [← hji8]; first | rfl | (simp [errW_none, errW_some] <;> rfl)) | (simp [*, errW_none, errW_some] <;> rfl), by repeat (first | (with_reducible first | exact HB.out | apply below_alloc | apply pw_below_drewN | apply below_drew1 | refine below_set ?_ GE221.out | refine below_set ?_ GE223.out | refine below_set ?_ GE225.out) | exact HB.out)⟩
                   | clear hm3_1
                     have H' := Aside0.mk H
                     clear H
                     have hnbze1 := NB225_221.out
                     have hncze1 := NB221_225.out
                     have hnbze2 := NB225_223.out
                     have hncze2 := NB223_225.out
                     have hczze1 : wc.cell? ⟨gb225, 0, none⟩ = some (.int .i64 ((rd_T36 l0 (ji8)).f0)) := (blk_cell BK225.out 0).trans rfl
                     have hczze2 : wc.cell? ⟨gb225, 1, none⟩ = some (.int .i64 ((rd_T36 l0 (ji8)).f1)) := (blk_cell BK225.out 1).trans rfl
                     have hfzze1 := blk_frozen BK225.out 0
                     have hfzze2 := blk_frozen BK225.out 1
                     have hnbze3 := NB221_223.out
                     have hncze3 := NB223_221.out
                     have hczze3 : wc.cell? ⟨gb221, 0, none⟩ = some (.int .i64 a1_0) := (blk_cell BK221.out 0).trans rfl
                     have hczze4 : wc.cell? ⟨gb221, 1, none⟩ = some (.int .i64 a1_1) := (blk_cell BK221.out 1).trans rfl
                     have hfzze3 := blk_frozen BK221.out 0
                     have hfzze4 := blk_frozen BK221.out 1
                     have hczze5 : wc.cell? ⟨gb223, 0, none⟩ = some (.int .i64 ((rd_T36 l0 x12_1).f0)) := (blk_cell BK223.out 0).trans rfl
                     have hczze6 : wc.cell? ⟨gb223, 1, none⟩ = some (.int .i64 ((rd_T36 l0 x12_1).f1)) := (blk_cell BK223.out 1).trans rfl
                     have hfzze5 := blk_frozen BK223.out 0
                     have hfzze6 := blk_frozen BK223.out 1
                     go_wp2
                     first | go_roundg kj11 | (subst hji8; go_roundg kj11)
                     case measure => have := HK1.out; have := HJ11.out; omega
                     case rel => first | (exact ⟨(wrap64 (-x5_1)), (wrap64 (x12_1 + 1)), (by first | rfl | (simp; done) | (simp [*]; done)), (by first | rfl | (simp; done) | (simp [*]; done)), H', ⟨by have := HK1.out; have := HJ11.out; omega⟩, ⟨by (with_reducible repeat (first | refine blk_drewN ?_ _ | refine blk_drew ?_ | refine blk_alloc ?_ _)); exact BK221.out⟩, ⟨by repeat (first | (with_reducible first | exact HB.out | apply below_alloc | apply pw_below_drewN | apply below_drew1 | refine below_set ?_ GE221.out | refine below_set ?_ GE223.out | refine below_set ?_ GE225.out) | exact HB.out)⟩⟩) | (exact ⟨(x5_1), (wrap64 (x12_1 + 1)), (by first | rfl | (simp; done) | (simp [*]; done)), (by first | rfl | (simp; done) | (simp [*]; done)), H', ⟨by have := HK1.out; have := HJ11.out; omega⟩, ⟨by (with_reducible repeat (first | refine blk_drewN ?_ _ | refine blk_drew ?_ | refine blk_alloc ?_ _)); exact BK221.out⟩, ⟨by repeat (first | (with_reducible first | exact HB.out | apply below_alloc | apply pw_below_drewN | apply below_drew1 | refine below_set ?_ GE221.out | refine below_set ?_ GE223.out | refine below_set ?_ GE225.out) | exact HB.out)⟩⟩)
             · rw [if_neg c10] at H
               exact absurd H (by simp)
           · rw [if_neg c9] at H
             exact absurd H (by simp)
       · rw [if_neg c6] at H
         exact absurd H (by simp)
     · rw [if_neg c5] at H
       exact absurd H (by simp)
   · rw [if_neg c4] at H
     have c4b0 : decide (x12_1 < (l0.length : Int)) = false := decide_eq_false c4
     clear c4
     obtain rfl := Option.some.inj H
     go_wp2
     go_ret
     exact ⟨by first | rfl | (simp [errW_none, errW_some] <;> rfl) | (simp [*, errW_none, errW_some] <;> rfl), by repeat (first | (with_reducible first | exact HB.out | apply below_alloc | apply pw_below_drewN | apply below_drew1 | refine below_set ?_ GE221.out) | exact HB.out)⟩

/-! ### polygon_Locate: function 28 -/
def polygon_Locate.f (k : Nat) (l0 : List (S36)) (a1_0 : Int) (a1_1 : Int) : Option (Int × Int) := (polygon_Check.f k l0).bind fun t229 => (if t229 = 0 then ((plane_Check.f a1_0 a1_1).bind fun t230 => (if t230 = 0 then ((polygon_locate.f k l0 a1_0 a1_1).bind fun t231 => (some (t231, 0))) else (some (0, t230)))) else (some (0, t229)))
theorem polygon_Locate.mono : ∀ a0 a1 a2 k, LeO (polygon_Locate.f k a0 a1 a2) (polygon_Locate.f (k + 1) a0 a1 a2) := by
  intro a0 a1 a2 k
  unfold polygon_Locate.f
  repeat' first
      | (with_reducible exact polygon_Check.mono _ _)
      | (with_reducible exact polygon_locate.mono _ _ _ _)
      | (with_reducible exact LeO.refl _)
      | (with_reducible exact LeO.none _)
      | (with_reducible refine LeO.ite ?_ ?_)
      | (with_reducible refine LeO.bind ?_ (fun _ => ?_))
      | exact polygon_Check.mono _ _
      | exact polygon_locate.mono _ _ _ _
      | exact LeO.none _
      | refine LeO.ite ?_ ?_
      | refine LeO.bind ?_ (fun _ => ?_)
set_option maxHeartbeats 8000000 in
set_option maxRecDepth 100000 in
theorem polygon_Locate.calls (k : Nat) (A0 : Option Addr) (c0 : Nat) (l0 : List (S36)) (a1_0 : Int) (a1_1 : Int) (r1 : Int) (r2 : Int) (w : World) (hr0 : Kd.C k36 w A0 l0.length l0) (hc0 : l0.length ≤ c0) (h : polygon_Locate.f k l0 a1_0 a1_1 = some (r1, r2)) :
    Calls Try.prog 28 #[.slice A0 l0.length c0, .agg #[.int .i64 a1_0, .int .i64 a1_1]] w fun e w' => e = .returned (.tuple #[.int .i64 r1, .int .i64 r2]) ∧ Below w.heap.size w w' := by
 have hu36 := Try.underlying36
 have HR0 := Aside0.mk hr0
 have HC0 := Aside0.mk hc0
 clear hr0 hc0
 have HB := Aside0.mk (Below.refl w.heap.size w)
 have H : ((polygon_Check.f k l0).bind fun t229 => (if t229 = 0 then ((plane_Check.f a1_0 a1_1).bind fun t230 => (if t230 = 0 then ((polygon_locate.f k l0 a1_0 a1_1).bind fun t231 => (some (t231, 0))) else (some (0, t230)))) else (some (0, t229)))) = some (r1, r2) := h
 clear h
 replace H := Option.bind_eq_some_iff.mp H
 obtain ⟨t229, A30, H⟩ := H
 replace H : (if t229 = 0 then ((plane_Check.f a1_0 a1_1).bind fun t230 => (if t230 = 0 then ((polygon_locate.f k l0 a1_0 a1_1).bind fun t231 => (some (t231, 0))) else (some (0, t230)))) else (some (0, t229))) = some (r1, r2) := H
 have A3 := Aside0.mk A30
 clear A30
 refine Or.elim (Classical.em (t229 = 0)) (fun c4 => ?p2_) (fun c4 => ?n2_)
 case' p2_ =>
  rw [if_pos c4] at H
  have c4b0 : (t229 == 0) = true := beq_iff_eq.mpr c4
  have c4b1 : (t229 != 0) = false := bne_eq_false_iff_eq.mpr c4
  clear c4
  replace H := Option.bind_eq_some_iff.mp H
  obtain ⟨t230, A50, H⟩ := H
  replace H : (if t230 = 0 then ((polygon_locate.f k l0 a1_0 a1_1).bind fun t231 => (some (t231, 0))) else (some (0, t230))) = some (r1, r2) := H
  have A5 := Aside0.mk A50
  clear A50
  refine Or.elim (Classical.em (t230 = 0)) (fun c6 => ?p3_) (fun c6 => ?n3_)
  case' p3_ =>
   rw [if_pos c6] at H
   have c6b0 : (t230 == 0) = true := beq_iff_eq.mpr c6
   have c6b1 : (t230 != 0) = false := bne_eq_false_iff_eq.mpr c6
   clear c6
   replace H := Option.bind_eq_some_iff.mp H
   obtain ⟨t231, A70, H⟩ := H
   replace H : (some (t231, 0)) = some (r1, r2) := H
   have A7 := Aside0.mk A70
   clear A70
   simp only [Option.some.injEq, Prod.mk.injEq] at H
   obtain ⟨rfl, rfl⟩ := H
  case' n3_ =>
   rw [if_neg c6] at H
   have c6b0 : (t230 == 0) = false := beq_eq_false_iff_ne.mpr c6
   have c6b1 : (t230 != 0) = true := bne_iff_ne.mpr c6
   simp only [Option.some.injEq, Prod.mk.injEq] at H
   obtain ⟨rfl, rfl⟩ := H
 case' n2_ =>
  rw [if_neg c4] at H
  have c4b0 : (t229 == 0) = false := beq_eq_false_iff_ne.mpr c4
  have c4b1 : (t229 != 0) = true := bne_iff_ne.mpr c4
  simp only [Option.some.injEq, Prod.mk.injEq] at H
  obtain ⟨rfl, rfl⟩ := H
 all_goals
  go_enter Try.func28, Try.ntmps28
  go_wp2_with (first | ((with_reducible refine gate_dst (N := 3) rfl ?_); refine box_event ?hg (N := 3) ?hd (cs := #[.int .i64 a1_0, .int .i64 a1_1]) (t := 36) ?hr ?_; (case hd => rfl); (case hg => rfl); (case hr => first | (go_simp; done) | (go_simp; rfl)); intro gb228 hg wxbc2a1 hbox hb; have n0_ := Aside0.mk (below_step (by repeat (first | (with_reducible first | exact HB.out | apply below_alloc | apply pw_below_drewN | apply below_drew1) | exact HB.out)) hb); have n1_ := Aside0.mk (hbox); have n2_ := Aside0.mk ((by rw [hg]; exact (below_size (by repeat (first | (with_reducible first | exact HB.out | apply below_alloc | apply pw_below_drewN | apply below_drew1) | exact HB.out))) : w.heap.size ≤ gb228)); have n3_ := Aside0.mk ((by rw [hg]; exact (below_size (by repeat (first | (with_reducible first | exact HB.out | apply below_alloc | apply pw_below_drewN | apply below_drew1) | exact HB.out))) : w.heap.size ≤ gb228)); clear HB; have HB := n0_; have BK228 := n1_; have GW228 := n2_; have GE228 := n3_; clear n0_ n1_ n2_ n3_; clear hb hbox hg) | ((with_reducible refine gate_callee (f := 72) rfl ?_); refine goesL_ (some 9) rfl rfl Try.func72 (by kernel_rfl) rfl #[.slice A0 l0.length c0] rfl (by (try simp only [List.map_toArray, List.map_cons, List.map_nil]); first | done | rfl | (simp only [List.length_drop, List.length_take]; rfl)) ?_; (with_reducible refine (polygon_Check.calls k _ _ l0 t229 _ ?side1 ?side2 A3.out).mono ?_); (case side1 => repeat (first | exact (Kd.C_below HR0.out HB.out) | (with_reducible refine Kd.C_alloc ?_ _) | (with_reducible refine Kd.C_drewN ?_ _) | (with_reducible refine Kd.C_drew ?_))); (case side2 => exact HC0.out); rintro e wx5f6d1 ⟨rfl, hb⟩; refine ⟨_, rfl, ?_⟩; have n0_ := Aside0.mk (blk_below (g := gb228) (o := .cells #[.int .i64 a1_0, .int .i64 a1_1] 36 (0, 0)) (by (with_reducible repeat (first | refine blk_drewN ?_ _ | refine blk_drew ?_ | refine blk_alloc ?_ _)); exact BK228.out) hb); have n1_ := Aside0.mk (below_step (by repeat (first | (with_reducible first | exact HB.out | apply below_alloc | apply pw_below_drewN | apply below_drew1 | refine below_set ?_ GE228.out) | exact HB.out)) hb); clear BK228; clear HB; have BK228 := n0_; have HB := n1_; clear n0_ n1_; (try clear hb); (try clear hb2); (try clear hk); (try clear hi); have hczx5f6d1 : wx5f6d1.cell? ⟨gb228, 0, none⟩ = some (.int .i64 a1_0) := (blk_cell BK228.out 0).trans rfl; have hczx5f6d2 : wx5f6d1.cell? ⟨gb228, 1, none⟩ = some (.int .i64 a1_1) := (blk_cell BK228.out 1).trans rfl; have hfzx5f6d1 := blk_frozen BK228.out 0; have hfzx5f6d2 := blk_frozen BK228.out 1) | ((with_reducible refine gate_callee (f := 72) rfl ?_); refine goesL_ (some 9) rfl rfl Try.func72 (by kernel_rfl) rfl #[.slice A0 l0.length c0] rfl (by (try simp only [List.map_toArray, List.map_cons, List.map_nil]); first | done | rfl | (simp only [List.length_drop, List.length_take]; rfl)) ?_; (with_reducible refine (polygon_Check.calls k _ _ l0 t229 _ ?side1 ?side2 A3.out).mono ?_); (case side1 => repeat (first | exact (Kd.C_below HR0.out HB.out) | (with_reducible refine Kd.C_alloc ?_ _) | (with_reducible refine Kd.C_drewN ?_ _) | (with_reducible refine Kd.C_drew ?_))); (case side2 => exact HC0.out); rintro e wxf8d81 ⟨rfl, hb⟩; refine ⟨_, rfl, ?_⟩; have n0_ := Aside0.mk (blk_below (g := gb228) (o := .cells #[.int .i64 a1_0, .int .i64 a1_1] 36 (0, 0)) (by (with_reducible repeat (first | refine blk_drewN ?_ _ | refine blk_drew ?_ | refine blk_alloc ?_ _)); exact BK228.out) hb); have n1_ := Aside0.mk (below_step (by repeat (first | (with_reducible first | exact HB.out | apply below_alloc | apply pw_below_drewN | apply below_drew1 | refine below_set ?_ GE228.out) | exact HB.out)) hb); clear BK228; clear HB; have BK228 := n0_; have HB := n1_; clear n0_ n1_; (try clear hb); (try clear hb2); (try clear hk); (try clear hi)) | ((with_reducible refine gate_callee (f := 57) rfl ?_); refine goesL_ (some 14) rfl rfl Try.func57 (by kernel_rfl) rfl #[.agg #[.int .i64 a1_0, .int .i64 a1_1]] rfl (by (try simp only [List.map_toArray, List.map_cons, List.map_nil]); first | done | rfl | (simp only [List.length_drop, List.length_take]; rfl)) ?_; (with_reducible refine (plane_Check.calls a1_0 a1_1 t230 _ A5.out).mono ?_); rintro e wxcaad1 ⟨rfl, hb⟩; refine ⟨_, rfl, ?_⟩; have n0_ := Aside0.mk (blk_below (g := gb228) (o := .cells #[.int .i64 a1_0, .int .i64 a1_1] 36 (0, 0)) (by (with_reducible repeat (first | refine blk_drewN ?_ _ | refine blk_drew ?_ | refine blk_alloc ?_ _)); exact BK228.out) hb); have n1_ := Aside0.mk (below_step (by repeat (first | (with_reducible first | exact HB.out | apply below_alloc | apply pw_below_drewN | apply below_drew1 | refine below_set ?_ GE228.out) | exact HB.out)) hb); clear BK228; clear HB; have BK228 := n0_; have HB := n1_; clear n0_ n1_; (try clear hb); (try clear hb2); (try clear hk); (try clear hi); have hczxcaad1 : wxcaad1.cell? ⟨gb228, 0, none⟩ = some (.int .i64 a1_0) := (blk_cell BK228.out 0).trans rfl; have hczxcaad2 : wxcaad1.cell? ⟨gb228, 1, none⟩ = some (.int .i64 a1_1) := (blk_cell BK228.out 1).trans rfl; have hfzxcaad1 := blk_frozen BK228.out 0; have hfzxcaad2 := blk_frozen BK228.out 1) | ((with_reducible refine gate_callee (f := 57) rfl ?_); refine goesL_ (some 14) rfl rfl Try.func57 (by kernel_rfl) rfl #[.agg #[.int .i64 a1_0, .int .i64 a1_1]] rfl (by (try simp only [List.map_toArray, List.map_cons, List.map_nil]); first | done | rfl | (simp only [List.length_drop, List.length_take]; rfl)) ?_; (with_reducible refine (plane_Check.calls a1_0 a1_1 t230 _ A5.out).mono ?_); rintro e wx08b81 ⟨rfl, hb⟩; refine ⟨_, rfl, ?_⟩; have n0_ := Aside0.mk (blk_below (g := gb228) (o := .cells #[.int .i64 a1_0, .int .i64 a1_1] 36 (0, 0)) (by (with_reducible repeat (first | refine blk_drewN ?_ _ | refine blk_drew ?_ | refine blk_alloc ?_ _)); exact BK228.out) hb); have n1_ := Aside0.mk (below_step (by repeat (first | (with_reducible first | exact HB.out | apply below_alloc | apply pw_below_drewN | apply below_drew1 | refine below_set ?_ GE228.out) | exact HB.out)) hb); clear BK228; clear HB; have BK228 := n0_; have HB := n1_; clear n0_ n1_; (try clear hb); (try clear hb2); (try clear hk); (try clear hi)) | ((with_reducible refine gate_callee (f := 73) rfl ?_); refine goesL_ (some 20) rfl rfl Try.func73 (by kernel_rfl) rfl #[.slice A0 l0.length c0, .agg #[.int .i64 a1_0, .int .i64 a1_1]] rfl (by (try simp only [List.map_toArray, List.map_cons, List.map_nil]); first | done | rfl | (simp only [List.length_drop, List.length_take]; rfl)) ?_; (with_reducible refine (polygon_locate.calls k _ _ l0 a1_0 a1_1 t231 _ ?side1 ?side2 A7.out).mono ?_); (case side1 => repeat (first | exact (Kd.C_below HR0.out HB.out) | (with_reducible refine Kd.C_alloc ?_ _) | (with_reducible refine Kd.C_drewN ?_ _) | (with_reducible refine Kd.C_drew ?_))); (case side2 => exact HC0.out); rintro e wxfb451 ⟨rfl, hb⟩; refine ⟨_, rfl, ?_⟩; have n0_ := Aside0.mk (blk_below (g := gb228) (o := .cells #[.int .i64 a1_0, .int .i64 a1_1] 36 (0, 0)) (by (with_reducible repeat (first | refine blk_drewN ?_ _ | refine blk_drew ?_ | refine blk_alloc ?_ _)); exact BK228.out) hb); have n1_ := Aside0.mk (below_step (by repeat (first | (with_reducible first | exact HB.out | apply below_alloc | apply pw_below_drewN | apply below_drew1 | refine below_set ?_ GE228.out) | exact HB.out)) hb); clear BK228; clear HB; have BK228 := n0_; have HB := n1_; clear n0_ n1_; (try clear hb); (try clear hb2); (try clear hk); (try clear hi)))
  go_ret2
  exact ⟨by first | rfl | (simp [errW_none, errW_some] <;> rfl) | (simp [*, errW_none, errW_some] <;> rfl), by repeat (first | (with_reducible first | exact HB.out | apply below_alloc | apply pw_below_drewN | apply below_drew1 | refine below_set ?_ GE228.out) | exact HB.out)⟩

/-! ### volume_Check: function 79 -/
def volume_Check.f (k : Nat) (l0_0 : List (S36)) (a0_1 : Int) (a0_2 : Int) : Option (Int) := (polygon_Check.f k l0_0).bind fun t233 => (if t233 = 0 then (if a0_1 < 0 then (some 4) else (if a0_2 > 60001 then (some 4) else (if a0_1 ≥ a0_2 then (some 4) else (some 0)))) else (some t233))
theorem volume_Check.mono : ∀ a0 a1 a2 k, LeO (volume_Check.f k a0 a1 a2) (volume_Check.f (k + 1) a0 a1 a2) := by
  intro a0 a1 a2 k
  unfold volume_Check.f
  repeat' first
      | (with_reducible exact polygon_Check.mono _ _)
      | (with_reducible exact LeO.refl _)
      | (with_reducible exact LeO.none _)
      | (with_reducible refine LeO.ite ?_ ?_)
      | (with_reducible refine LeO.bind ?_ (fun _ => ?_))
      | exact polygon_Check.mono _ _
      | exact LeO.none _
      | refine LeO.ite ?_ ?_
      | refine LeO.bind ?_ (fun _ => ?_)
set_option maxHeartbeats 8000000 in
set_option maxRecDepth 100000 in
theorem volume_Check.calls (k : Nat) (A0_0 : Option Addr) (c0_0 : Nat) (l0_0 : List (S36)) (a0_1 : Int) (a0_2 : Int) (r : Int) (w : World) (hr0_0 : Kd.C k36 w A0_0 l0_0.length l0_0) (hc0_0 : l0_0.length ≤ c0_0) (h : volume_Check.f k l0_0 a0_1 a0_2 = some r) :
    Calls Try.prog 79 #[.agg #[.slice A0_0 l0_0.length c0_0, .int .i64 a0_1, .int .i64 a0_2]] w fun e w' => e = .returned (.int .i64 r) ∧ Below w.heap.size w w' := by
 have hu62 := Try.underlying62
 have HR0_0 := Aside0.mk hr0_0
 have HC0_0 := Aside0.mk hc0_0
 clear hr0_0 hc0_0
 have HB := Aside0.mk (Below.refl w.heap.size w)
 have H : ((polygon_Check.f k l0_0).bind fun t233 => (if t233 = 0 then (if a0_1 < 0 then (some 4) else (if a0_2 > 60001 then (some 4) else (if a0_1 ≥ a0_2 then (some 4) else (some 0)))) else (some t233))) = some r := h
 clear h
 replace H := Option.bind_eq_some_iff.mp H
 obtain ⟨t233, A20, H⟩ := H
 replace H : (if t233 = 0 then (if a0_1 < 0 then (some 4) else (if a0_2 > 60001 then (some 4) else (if a0_1 ≥ a0_2 then (some 4) else (some 0)))) else (some t233)) = some r := H
 have A2 := Aside0.mk A20
 clear A20
 refine Or.elim (Classical.em (t233 = 0)) (fun c3 => ?p2_) (fun c3 => ?n2_)
 case' p2_ =>
  rw [if_pos c3] at H
  have c3b0 : (t233 == 0) = true := beq_iff_eq.mpr c3
  have c3b1 : (t233 != 0) = false := bne_eq_false_iff_eq.mpr c3
  clear c3
  refine Or.elim (Classical.em (a0_1 < 0)) (fun c4 => ?p3_) (fun c4 => ?n3_)
  case' p3_ =>
   rw [if_pos c4] at H
   have c4b0 : decide (a0_1 < 0) = true := decide_eq_true c4
   clear c4
  case' n3_ =>
   rw [if_neg c4] at H
   have c4b0 : decide (a0_1 < 0) = false := decide_eq_false c4
   clear c4
   refine Or.elim (Classical.em (a0_2 > 60001)) (fun c9 => ?p4_) (fun c9 => ?n4_)
   case' p4_ =>
    rw [if_pos c9] at H
    have c9b0 : decide (60001 < a0_2) = true := decide_eq_true c9
    clear c9
   case' n4_ =>
    rw [if_neg c9] at H
    have c9b0 : decide (60001 < a0_2) = false := decide_eq_false c9
    clear c9
    refine Or.elim (Classical.em (a0_1 ≥ a0_2)) (fun c14 => ?p5_) (fun c14 => ?n5_)
    case' p5_ =>
     rw [if_pos c14] at H
     have c14b0 : decide (a0_2 ≤ a0_1) = true := decide_eq_true c14
     clear c14
    case' n5_ =>
     rw [if_neg c14] at H
     have c14b0 : decide (a0_2 ≤ a0_1) = false := decide_eq_false c14
     clear c14
 case' n2_ =>
  rw [if_neg c3] at H
  have c3b0 : (t233 == 0) = false := beq_eq_false_iff_ne.mpr c3
  have c3b1 : (t233 != 0) = true := bne_iff_ne.mpr c3
 all_goals
  obtain rfl := Option.some.inj H
  go_enter Try.func79, Try.ntmps79
  go_wp2_with (first | ((with_reducible refine gate_dst (N := 1) rfl ?_); refine box_event ?hg (N := 1) ?hd (cs := #[.slice A0_0 l0_0.length c0_0, .int .i64 a0_1, .int .i64 a0_2]) (t := 62) ?hr ?_; (case hd => rfl); (case hg => rfl); (case hr => first | (go_simp; done) | (go_simp; rfl)); intro gb232 hg wx5bc51 hbox hb; have n0_ := Aside0.mk (below_step (by repeat (first | (with_reducible first | exact HB.out | apply below_alloc | apply pw_below_drewN | apply below_drew1) | exact HB.out)) hb); have n1_ := Aside0.mk (hbox); have n2_ := Aside0.mk ((by rw [hg]; exact (below_size (by repeat (first | (with_reducible first | exact HB.out | apply below_alloc | apply pw_below_drewN | apply below_drew1) | exact HB.out))) : w.heap.size ≤ gb232)); have n3_ := Aside0.mk ((by rw [hg]; exact (below_size (by repeat (first | (with_reducible first | exact HB.out | apply below_alloc | apply pw_below_drewN | apply below_drew1) | exact HB.out))) : w.heap.size ≤ gb232)); clear HB; have HB := n0_; have BK232 := n1_; have GW232 := n2_; have GE232 := n3_; clear n0_ n1_ n2_ n3_; clear hb hbox hg; have hczx5bc51 : wx5bc51.cell? ⟨gb232, 0, none⟩ = some (.slice A0_0 l0_0.length c0_0) := (blk_cell BK232.out 0).trans rfl; have hczx5bc52 : wx5bc51.cell? ⟨gb232, 1, none⟩ = some (.int .i64 a0_1) := (blk_cell BK232.out 1).trans rfl; have hczx5bc53 : wx5bc51.cell? ⟨gb232, 2, none⟩ = some (.int .i64 a0_2) := (blk_cell BK232.out 2).trans rfl; have hfzx5bc51 := blk_frozen BK232.out 0; have hfzx5bc52 := blk_frozen BK232.out 1; have hfzx5bc53 := blk_frozen BK232.out 2) | ((with_reducible refine gate_callee (f := 72) rfl ?_); refine goesL_ (some 6) rfl rfl Try.func72 (by kernel_rfl) rfl #[.slice A0_0 l0_0.length c0_0] rfl (by (try simp only [List.map_toArray, List.map_cons, List.map_nil]); first | done | rfl | (simp only [List.length_drop, List.length_take]; rfl)) ?_; (with_reducible refine (polygon_Check.calls k _ _ l0_0 t233 _ ?side1 ?side2 A2.out).mono ?_); (case side1 => repeat (first | exact (Kd.C_below HR0_0.out HB.out) | (with_reducible refine Kd.C_alloc ?_ _) | (with_reducible refine Kd.C_drewN ?_ _) | (with_reducible refine Kd.C_drew ?_))); (case side2 => exact HC0_0.out); rintro e wx1b001 ⟨rfl, hb⟩; refine ⟨_, rfl, ?_⟩; have n0_ := Aside0.mk (blk_below (g := gb232) (o := .cells #[.slice A0_0 l0_0.length c0_0, .int .i64 a0_1, .int .i64 a0_2] 62 (0, 0)) (by (with_reducible repeat (first | refine blk_drewN ?_ _ | refine blk_drew ?_ | refine blk_alloc ?_ _)); exact BK232.out) hb); have n1_ := Aside0.mk (below_step (by repeat (first | (with_reducible first | exact HB.out | apply below_alloc | apply pw_below_drewN | apply below_drew1 | refine below_set ?_ GE232.out) | exact HB.out)) hb); clear BK232; clear HB; have BK232 := n0_; have HB := n1_; clear n0_ n1_; (try clear hb); (try clear hb2); (try clear hk); (try clear hi); have hczx1b001 : wx1b001.cell? ⟨gb232, 0, none⟩ = some (.slice A0_0 l0_0.length c0_0) := (blk_cell BK232.out 0).trans rfl; have hczx1b002 : wx1b001.cell? ⟨gb232, 1, none⟩ = some (.int .i64 a0_1) := (blk_cell BK232.out 1).trans rfl; have hczx1b003 : wx1b001.cell? ⟨gb232, 2, none⟩ = some (.int .i64 a0_2) := (blk_cell BK232.out 2).trans rfl; have hfzx1b001 := blk_frozen BK232.out 0; have hfzx1b002 := blk_frozen BK232.out 1; have hfzx1b003 := blk_frozen BK232.out 2) | ((with_reducible refine gate_callee (f := 72) rfl ?_); refine goesL_ (some 6) rfl rfl Try.func72 (by kernel_rfl) rfl #[.slice A0_0 l0_0.length c0_0] rfl (by (try simp only [List.map_toArray, List.map_cons, List.map_nil]); first | done | rfl | (simp only [List.length_drop, List.length_take]; rfl)) ?_; (with_reducible refine (polygon_Check.calls k _ _ l0_0 t233 _ ?side1 ?side2 A2.out).mono ?_); (case side1 => repeat (first | exact (Kd.C_below HR0_0.out HB.out) | (with_reducible refine Kd.C_alloc ?_ _) | (with_reducible refine Kd.C_drewN ?_ _) | (with_reducible refine Kd.C_drew ?_))); (case side2 => exact HC0_0.out); rintro e wx74291 ⟨rfl, hb⟩; refine ⟨_, rfl, ?_⟩; have n0_ := Aside0.mk (blk_below (g := gb232) (o := .cells #[.slice A0_0 l0_0.length c0_0, .int .i64 a0_1, .int .i64 a0_2] 62 (0, 0)) (by (with_reducible repeat (first | refine blk_drewN ?_ _ | refine blk_drew ?_ | refine blk_alloc ?_ _)); exact BK232.out) hb); have n1_ := Aside0.mk (below_step (by repeat (first | (with_reducible first | exact HB.out | apply below_alloc | apply pw_below_drewN | apply below_drew1 | refine below_set ?_ GE232.out) | exact HB.out)) hb); clear BK232; clear HB; have BK232 := n0_; have HB := n1_; clear n0_ n1_; (try clear hb); (try clear hb2); (try clear hk); (try clear hi)))
  go_ret
  exact ⟨by first | rfl | (simp [errW_none, errW_some] <;> rfl) | (simp [*, errW_none, errW_some] <;> rfl), by repeat (first | (with_reducible first | exact HB.out | apply below_alloc | apply pw_below_drewN | apply below_drew1 | refine below_set ?_ GE232.out) | exact HB.out)⟩

/-! ### volume_CheckSpans: function 80 -/
def volume_CheckSpans.l0 : Nat → List (S140) → Int → Int → Option (Int)
  | 0, _, _, _ => none
  | k + 1, x8, x9, x10 => if x10 < x9 then (if 0 ≤ x10 then (if x10 < (x8.length : Int) then (if ((rd_T140 x8 x10).f0) < 0 then (some 12) else (if ((rd_T140 x8 x10).f1) > 200000 then (some 12) else (if ((rd_T140 x8 x10).f0) ≥ ((rd_T140 x8 x10).f1) then (some 12) else (volume_CheckSpans.l0 k x8 x9 (wrap64 (x10 + 1)))))) else (none)) else (none)) else (some 0)
def volume_CheckSpans.f (k : Nat) (l0 : List (S140)) : Option (Int) := if (l0.length : Int) > 256 then (some 2) else (volume_CheckSpans.l0 k l0 (l0.length : Int) 0)
theorem volume_CheckSpans.mono_l : ∀ k, (∀ y0 y1 y2, LeO (volume_CheckSpans.l0 k y0 y1 y2) (volume_CheckSpans.l0 (k + 1) y0 y1 y2))
  | 0 => fun _ _ _ r h => by simp [volume_CheckSpans.l0] at h
  | k + 1 => by
    have ih0 := volume_CheckSpans.mono_l k
    · intro y0 y1 y2
      unfold volume_CheckSpans.l0
      repeat' first
      | (with_reducible exact ih0 _ _ _)
      | (with_reducible exact LeO.refl _)
      | (with_reducible exact LeO.none _)
      | (with_reducible refine LeO.ite ?_ ?_)
      | (with_reducible refine LeO.bind ?_ (fun _ => ?_))
      | exact ih0 _ _ _
      | exact LeO.none _
      | refine LeO.ite ?_ ?_
      | refine LeO.bind ?_ (fun _ => ?_)
theorem volume_CheckSpans.mono : ∀ a0 k, LeO (volume_CheckSpans.f k a0) (volume_CheckSpans.f (k + 1) a0) := by
  intro a0 k
  have ih0 := volume_CheckSpans.mono_l k
  unfold volume_CheckSpans.f
  repeat' first
      | (with_reducible exact ih0 _ _ _)
      | (with_reducible exact LeO.refl _)
      | (with_reducible exact LeO.none _)
      | (with_reducible refine LeO.ite ?_ ?_)
      | (with_reducible refine LeO.bind ?_ (fun _ => ?_))
      | exact ih0 _ _ _
      | exact LeO.none _
      | refine LeO.ite ?_ ?_
      | refine LeO.bind ?_ (fun _ => ?_)
set_option maxHeartbeats 8000000 in
set_option maxRecDepth 100000 in
theorem volume_CheckSpans.calls (k : Nat) (A0 : Option Addr) (c0 : Nat) (l0 : List (S140)) (r : Int) (w : World) (hr0 : Kd.C k140 w A0 l0.length l0) (hc0 : l0.length ≤ c0) (h : volume_CheckSpans.f k l0 = some r) :
    Calls Try.prog 80 #[.slice A0 l0.length c0] w fun e w' => e = .returned (.int .i64 r) ∧ Below w.heap.size w w' := by
 have hu140 := Try.underlying140
 have HR0 := Aside0.mk hr0
 have HC0 := Aside0.mk hc0
 clear hr0 hc0
 have HB := Aside0.mk (Below.refl w.heap.size w)
 have H : (if (l0.length : Int) > 256 then (some 2) else (volume_CheckSpans.l0 k l0 (l0.length : Int) 0)) = some r := h
 clear h
 by_cases c2 : (l0.length : Int) > 256
 · rw [if_pos c2] at H
   have c2b0 : decide (256 < (l0.length : Int)) = true := decide_eq_true c2
   have c2b1 : decide (256 < l0.length) = true := decide_eq_true (by omega)
   clear c2
   obtain rfl := Option.some.inj H
   go_enter Try.func80, Try.ntmps80
   go_wp2
   go_ret
   exact ⟨by first | rfl | (simp [errW_none, errW_some] <;> rfl) | (simp [*, errW_none, errW_some] <;> rfl), by repeat (first | (with_reducible first | exact HB.out | apply below_alloc | apply pw_below_drewN | apply below_drew1) | exact HB.out)⟩
 · rw [if_neg c2] at H
   have c2b0 : decide (256 < (l0.length : Int)) = false := decide_eq_false c2
   have c2b1 : decide (256 < l0.length) = false := decide_eq_false (by omega)
   clear c2
   have H' := Aside0.mk H
   clear H
   go_enter Try.func80, Try.ntmps80
   go_wp2
   go_loopg [10] k (fun kq v10 w' => ∃ (x10_1 : Int), v10 = .int .i64 x10_1 ∧ Aside0 (volume_CheckSpans.l0 kq l0 (l0.length : Int) x10_1 = some r) ∧ Aside0 (kq ≤ k) ∧ Aside0 (Below w.heap.size w w'))
   case atStart => exact ⟨(0), (by first | rfl | (simp; done) | (simp [*]; done)), H', ⟨Nat.le_refl _⟩, ⟨by repeat (first | (with_reducible first | exact HB.out | apply below_alloc | apply pw_below_drewN | apply below_drew1) | exact HB.out)⟩⟩
   case round =>
    clear H'
    (try clear c2); (try clear c2b0); (try clear c2b1); (try clear p2)
    obtain ⟨x10_1, rfl, HA, HK1, HB⟩ := hrel
    cases gk with
    | zero => exact absurd HA.out (by simp [volume_CheckSpans.l0])
    | succ k1 =>
     have H := HA.out
     clear HA
     simp only [volume_CheckSpans.l0] at H
     refine Or.elim (Classical.em (x10_1 < (l0.length : Int))) (fun c3 => ?p2_) (fun c3 => ?n2_)
     case' p2_ =>
      rw [if_pos c3] at H
      have c3b0 : decide (x10_1 < (l0.length : Int)) = true := decide_eq_true c3
      clear c3
      refine Or.elim (Classical.em (0 ≤ x10_1)) (fun c4 => ?p3_) (fun c4 => ?n3_)
      case' p3_ =>
       rw [if_pos c4] at H
       have c4b0 : decide (0 ≤ x10_1) = true := decide_eq_true c4
       clear c4
       refine Or.elim (Classical.em (x10_1 < (l0.length : Int))) (fun c5 => ?p4_) (fun c5 => ?n4_)
       case' p4_ =>
        rw [if_pos c5] at H
        have c5b0 : decide (x10_1 < (l0.length : Int)) = true := decide_eq_true c5
        clear c5
        refine Or.elim (Classical.em (((rd_T140 l0 x10_1).f0) < 0)) (fun c6 => ?p5_) (fun c6 => ?n5_)
        case' p5_ =>
         rw [if_pos c6] at H
         have c6b0 : decide (((rd_T140 l0 x10_1).f0) < 0) = true := decide_eq_true c6
         clear c6
         have hm1_0 := Aside0.mk trivial
        case' n5_ =>
         rw [if_neg c6] at H
         have c6b0 : decide (((rd_T140 l0 x10_1).f0) < 0) = false := decide_eq_false c6
         clear c6
         refine Or.elim (Classical.em (((rd_T140 l0 x10_1).f1) > 200000)) (fun c9 => ?p6_) (fun c9 => ?n6_)
         case' p6_ =>
          rw [if_pos c9] at H
          have c9b0 : decide (200000 < ((rd_T140 l0 x10_1).f1)) = true := decide_eq_true c9
          clear c9
          have hm1_0 := Aside0.mk trivial
         case' n6_ =>
          rw [if_neg c9] at H
          have c9b0 : decide (200000 < ((rd_T140 l0 x10_1).f1)) = false := decide_eq_false c9
          clear c9
          refine Or.elim (Classical.em (((rd_T140 l0 x10_1).f0) ≥ ((rd_T140 l0 x10_1).f1))) (fun c12 => ?p7_) (fun c12 => ?n7_)
          case' p7_ =>
           rw [if_pos c12] at H
           have c12b0 : decide (((rd_T140 l0 x10_1).f1) ≤ ((rd_T140 l0 x10_1).f0)) = true := decide_eq_true c12
           clear c12
           have hm1_0 := Aside0.mk trivial
          case' n7_ =>
           rw [if_neg c12] at H
           have c12b0 : decide (((rd_T140 l0 x10_1).f1) ≤ ((rd_T140 l0 x10_1).f0)) = false := decide_eq_false c12
           clear c12
           have hm1_1 := Aside0.mk trivial
       case' n4_ =>
        rw [if_neg c5] at H
        exact absurd H (by simp)
      case' n3_ =>
       rw [if_neg c4] at H
       exact absurd H (by simp)
     case' n2_ =>
      rw [if_neg c3] at H
      have c3b0 : decide (x10_1 < (l0.length : Int)) = false := decide_eq_false c3
      clear c3
      have hm1_2 := Aside0.mk trivial
     all_goals
      first
       | (first | (have _hm := hm1_0) | (have _hm := hm1_2))
         obtain rfl := Option.some.inj H
         first
          | clear hm1_0
            have p234 : 0 ≤ (x10_1 : Int) := of_decide_eq_true (by first | (with_reducible assumption) | assumption)
            have q234 : x10_1 < (l0.length : Int) := of_decide_eq_true (by first | (with_reducible assumption) | assumption)
            obtain ⟨ad234, e234, hx234_0, hx234_1⟩ := at_T140 HR0.out x10_1 p234 q234
            cases e234
            replace hx234_0 := (HB.out.cell (World.block_lt_of_cell? w _ hx234_0)).trans hx234_0
            replace hx234_1 := (HB.out.cell (World.block_lt_of_cell? w _ hx234_1)).trans hx234_1
            replace p234 := eq_true p234
            replace q234 := eq_true q234
            go_wp2_with (first | ((with_reducible refine gate_dst (N := 4) rfl ?_); refine box_event ?hg (N := 4) ?hd (cs := #[.int .i64 0, .int .i64 0]) (t := 140) ?hr ?_; (case hd => rfl); (case hg => rfl); (case hr => first | (go_simp; done) | (go_simp; rfl)); intro gb235 hg wx00101 hbox hb; have n0_ := Aside0.mk (below_step (by repeat (first | (with_reducible first | exact HB.out | apply below_alloc | apply pw_below_drewN | apply below_drew1) | exact HB.out)) hb); have n1_ := Aside0.mk (hbox); have n2_ := Aside0.mk ((by rw [hg]; exact (below_size (by repeat (first | (with_reducible first | exact HB.out | apply below_alloc | apply pw_below_drewN | apply below_drew1) | exact HB.out))) : w.heap.size ≤ gb235)); have n3_ := Aside0.mk ((by rw [hg]; exact (below_size (by repeat (first | (with_reducible first | exact HB.out | apply below_alloc | apply pw_below_drewN | apply below_drew1) | exact HB.out))) : w.heap.size ≤ gb235)); clear HB; have HB := n0_; have BK235 := n1_; have GW235 := n2_; have GE235 := n3_; clear n0_ n1_ n2_ n3_; clear hb hbox hg; have hczx00101 : wx00101.cell? ⟨gb235, 0, none⟩ = some (.int .i64 0) := (blk_cell BK235.out 0).trans rfl; have hczx00102 : wx00101.cell? ⟨gb235, 1, none⟩ = some (.int .i64 0) := (blk_cell BK235.out 1).trans rfl; have hfzx00101 := blk_frozen BK235.out 0; have hfzx00102 := blk_frozen BK235.out 1))
            go_ret
            exact ⟨by first | rfl | (simp [errW_none, errW_some] <;> rfl) | (simp [*, errW_none, errW_some] <;> rfl), by repeat (first | (with_reducible first | exact HB.out | apply below_alloc | apply pw_below_drewN | apply below_drew1 | refine below_set ?_ GE235.out) | exact HB.out)⟩
          | clear hm1_2
            go_wp2
            go_ret
            exact ⟨by first | rfl | (simp [errW_none, errW_some] <;> rfl) | (simp [*, errW_none, errW_some] <;> rfl), by repeat (first | (with_reducible first | exact HB.out | apply below_alloc | apply pw_below_drewN | apply below_drew1) | exact HB.out)⟩
       | clear hm1_1
         have H' := Aside0.mk H
         clear H
         have p234 : 0 ≤ (x10_1 : Int) := of_decide_eq_true (by first | (with_reducible assumption) | assumption)
         have q234 : x10_1 < (l0.length : Int) := of_decide_eq_true (by first | (with_reducible assumption) | assumption)
         obtain ⟨ad234, e234, hx234_0, hx234_1⟩ := at_T140 HR0.out x10_1 p234 q234
         cases e234
         replace hx234_0 := (HB.out.cell (World.block_lt_of_cell? w _ hx234_0)).trans hx234_0
         replace hx234_1 := (HB.out.cell (World.block_lt_of_cell? w _ hx234_1)).trans hx234_1
         replace p234 := eq_true p234
         replace q234 := eq_true q234
         go_wp2_with (first | ((with_reducible refine gate_dst (N := 4) rfl ?_); refine box_event ?hg (N := 4) ?hd (cs := #[.int .i64 0, .int .i64 0]) (t := 140) ?hr ?_; (case hd => rfl); (case hg => rfl); (case hr => first | (go_simp; done) | (go_simp; rfl)); intro gb235 hg wx00101 hbox hb; have n0_ := Aside0.mk (below_step (by repeat (first | (with_reducible first | exact HB.out | apply below_alloc | apply pw_below_drewN | apply below_drew1) | exact HB.out)) hb); have n1_ := Aside0.mk (hbox); have n2_ := Aside0.mk ((by rw [hg]; exact (below_size (by repeat (first | (with_reducible first | exact HB.out | apply below_alloc | apply pw_below_drewN | apply below_drew1) | exact HB.out))) : w.heap.size ≤ gb235)); have n3_ := Aside0.mk ((by rw [hg]; exact (below_size (by repeat (first | (with_reducible first | exact HB.out | apply below_alloc | apply pw_below_drewN | apply below_drew1) | exact HB.out))) : w.heap.size ≤ gb235)); clear HB; have HB := n0_; have BK235 := n1_; have GW235 := n2_; have GE235 := n3_; clear n0_ n1_ n2_ n3_; clear hb hbox hg; have hczx00101 : wx00101.cell? ⟨gb235, 0, none⟩ = some (.int .i64 0) := (blk_cell BK235.out 0).trans rfl; have hczx00102 : wx00101.cell? ⟨gb235, 1, none⟩ = some (.int .i64 0) := (blk_cell BK235.out 1).trans rfl; have hfzx00101 := blk_frozen BK235.out 0; have hfzx00102 := blk_frozen BK235.out 1))
         go_roundg k1
         case measure => have := HK1.out; omega
         case rel => exact ⟨(wrap64 (x10_1 + 1)), (by first | rfl | (simp; done) | (simp [*]; done)), H', ⟨by have := HK1.out; omega⟩, ⟨by repeat (first | (with_reducible first | exact HB.out | apply below_alloc | apply pw_below_drewN | apply below_drew1 | refine below_set ?_ GE235.out) | exact HB.out)⟩⟩

/-! ### api_RouteVolume_138: function 138 -/
/-- Where a predicate holds first. -/
def api_RouteVolume_138.f (l0 : List (S65)) (p : (S65) → Bool) : Option Int := some (IdxF.idx p l0)
set_option maxHeartbeats 8000000 in
set_option maxRecDepth 100000 in
theorem api_RouteVolume_138.calls (A0 : Option Addr) (c0 : Nat) (l0 : List (S65)) (p : (S65) → Bool) {F : Value} (r : Int) (w : World) (hr0 : Kd.C k65 w A0 l0.length l0) (hc0 : l0.length ≤ c0) (hp : IdxF.Pred Try.prog k65 true F p w) (h : api_RouteVolume_138.f l0 p = some r) :
    Calls Try.prog 138 #[.slice A0 l0.length c0, F] w fun e w' => e = .returned (.int .i64 r) ∧ Below w.heap.size w w' := by
  obtain ⟨g, lb, rfl, eg, hp⟩ := hp
  obtain rfl := Option.some.inj h
  clear h
  have hbig := hr0.2.1
  go_enter Try.func138, Try.ntmps138
  go_wp2
  go_loopg [5, 8] l0.length (fun gg _ s8 wr => ∃ kk : Nat, kk ≤ l0.length ∧ l0.length - kk ≤ gg ∧ s8 = .int .i64 kk ∧ Aside0 (Below w.heap.size w wr) ∧ Aside0 (∀ j (h : j < l0.length), j < kk → p l0[j] = false))
  case atStart => exact ⟨0, Nat.zero_le _, by omega, rfl, ⟨Below.refl _ w⟩, ⟨fun j _ hj => absurd hj (Nat.not_lt_zero _)⟩⟩
  case round =>
    obtain ⟨kk, hkk, hg, rfl, BW, AJ⟩ := hrel
    by_cases hlt : kk < l0.length
    · have hltz : (kk : Int) < (l0.length : Int) := by omega
      obtain ⟨ad, cs, rfl, hlen, hK, hcell⟩ := Kd.C_get (Kd.C_below hr0 BW.out) z65 (kk : Int) (by omega) hltz
      have hx : l0.getD (kk : Int).toNat z65 = l0[kk] := by rw [Int.toNat_natCast, List.getD_eq_getElem?_getD, List.getElem?_eq_getElem hlt]; rfl
      rw [hx] at hK
      obtain ⟨v0_, v1_, v2_, v3_, v4_, rfl⟩ := IdxF.len5 hlen
      have hx0_ : wr.cell? (ad.add (kk * 5)) = some v0_ := by first | exact hcell 0 v0_ rfl | simpa using hcell 0 v0_ rfl
      have hx1_ : wr.cell? ⟨(ad.add (kk * 5)).block, (ad.add (kk * 5)).off + 1, none⟩ = some v1_ := by rw [← add_field _ _ 1 (by omega)]; exact hcell 1 _ rfl
      have hx2_ : wr.cell? ⟨(ad.add (kk * 5)).block, (ad.add (kk * 5)).off + 2, none⟩ = some v2_ := by rw [← add_field _ _ 2 (by omega)]; exact hcell 2 _ rfl
      have hx3_ : wr.cell? ⟨(ad.add (kk * 5)).block, (ad.add (kk * 5)).off + 3, none⟩ = some v3_ := by rw [← add_field _ _ 3 (by omega)]; exact hcell 3 _ rfl
      have hx4_ : wr.cell? ⟨(ad.add (kk * 5)).block, (ad.add (kk * 5)).off + 4, none⟩ = some v4_ := by rw [← add_field _ _ 4 (by omega)]; exact hcell 4 _ rfl
      have hcall : Calls Try.prog g (#[.agg #[v0_, v1_, v2_, v3_, v4_]] ++ lb) wr fun e w' => e = .returned (.bool (p l0[kk])) ∧ Below wr.heap.size wr w' := hp wr l0[kk] _ BW.out hK
      clear hcell hx hp hK hlen
      cases hq : p l0[kk] with
      | true =>
        rw [hq] at hcall
        go_wp2_with (go_at_fn g; refine hcall.mono ?_; rintro e w' ⟨rfl, hb'⟩)
        go_ret
        refine ⟨?_, below_step BW.out hb'⟩
        rw [IdxF.idx_hit p l0 hlt hq (fun j h => AJ.out j _ h)]
        rfl
      | false =>
        rw [hq] at hcall
        go_wp2_with (go_at_fn g; refine hcall.mono ?_; rintro e w' ⟨rfl, hb'⟩)
        go_roundg (l0.length - (kk + 1))
        case measure => omega
        case rel =>
          refine ⟨kk + 1, by omega, by omega, by go_num, ⟨below_step BW.out hb'⟩, ⟨fun j h hj => ?_⟩⟩
          by_cases e : j = kk
          · subst e
            exact hq
          · exact AJ.out j h (by omega)
    · have hltz : ¬ (kk : Int) < (l0.length : Int) := by omega
      go_wp2
      go_ret
      refine ⟨?_, BW.out⟩
      rw [IdxF.idx_miss p l0 (fun j h => AJ.out j h (by omega))]
      rfl

/-! ### api_RouteVolume_103: function 103 -/
/-- Whether a predicate holds somewhere. -/
def api_RouteVolume_103.f (l0 : List (S65)) (p : (S65) → Bool) : Option Bool := some (l0.any p)
set_option maxHeartbeats 8000000 in
set_option maxRecDepth 100000 in
theorem api_RouteVolume_103.calls (A0 : Option Addr) (c0 : Nat) (l0 : List (S65)) (p : (S65) → Bool) {F : Value} (r : Bool) (w : World) (hr0 : Kd.C k65 w A0 l0.length l0) (hc0 : l0.length ≤ c0) (hp : IdxF.Pred Try.prog k65 true F p w) (h : api_RouteVolume_103.f l0 p = some r) :
    Calls Try.prog 103 #[.slice A0 l0.length c0, F] w fun e w' => e = .returned (.bool r) ∧ Below w.heap.size w w' := by
  obtain rfl := Option.some.inj h
  clear h
  rw [← IdxF.idx_any]
  have hi := api_RouteVolume_138.calls A0 c0 l0 p (IdxF.idx p l0) w hr0 hc0 hp rfl
  obtain ⟨g, lb, rfl, eg, hp⟩ := hp
  have e6 : ∀ args w, (callFunc 138 args).run Try.prog w = .ok (.enter 138 args) w := enters_of Try.func138 (by kernel_rfl) rfl
  go_enter Try.func103, Try.ntmps103
  go_wp2_with (go_at_call 138; refine hi.mono ?_; rintro e w' ⟨rfl, hb'⟩)
  go_ret
  exact ⟨rfl, hb'⟩

/-! ### route_CheckVolumes_1: function 104 -/
/-- Whether an element has this name. -/
def route_CheckVolumes_1.p (s : ByteArray) (_l : List S36) (_a _b : Int) (_q : List S140) (x : S65) : Bool := decide (x.f0 = s)
set_option maxHeartbeats 8000000 in
set_option maxRecDepth 100000 in
theorem route_CheckVolumes_1.pred {s : ByteArray} {l : List S36} {a a' : Int} {q : List S140} {v v1 v2 v3 : Value} {b ty : Nat} {w : World} (hb : w.heap[b]? = some (.cells #[.string s, v, v1, v2, v3] ty (0, 0))) : IdxF.Pred Try.prog k65 true (.func (.func 104) #[] #[.pointer (some ⟨b, 0, none⟩)]) (route_CheckVolumes_1.p s l a a' q) w := by
  refine ⟨104, _, rfl, enters_of Try.func104 (by kernel_rfl) rfl, fun W x cs hW hK => ?_⟩
  obtain ⟨A1, c1, A4, c4, rfl, _⟩ := k65_open hK
  have hbW := blk_below hb hW
  have hc : W.cell? ⟨b, 0, none⟩ = some (.string s) := (blk_cell hbW 0).trans rfl
  have hlt := blk_lt hbW
  clear hb hbW hW
  unfold route_CheckVolumes_1.p
  change Calls Try.prog 104 #[.agg #[.string x.f0, .slice A1 x.f1.f0.length c1, .int .i64 x.f1.f1, .int .i64 x.f1.f2, .slice A4 x.f2.length c4], .pointer (some ⟨b, 0, none⟩)] W _
  generalize x.f0 = x0
  go_enter Try.func104, Try.ntmps104
  go_wp2
  go_ret
  exact ⟨by first | rfl | (rw [IdxF.str_eq]; rfl), below_alloc (Below.refl _ _) _⟩

end Go.Proofs.Ytbpbpojnfhhbjaa.PFlyClosed
