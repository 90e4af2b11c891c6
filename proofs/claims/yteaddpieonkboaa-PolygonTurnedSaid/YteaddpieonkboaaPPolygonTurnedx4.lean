/- Made by a program of this session (wip/tools/myprint.py, over the kit's printer): that the Go functions answer as the Lean functions printed beside them. -/
import Derived.Test.YteaddpieonkboaaPPolygonTurnedx0
import Derived.Test.YteaddpieonkboaaPPolygonTurnedx1
namespace Go.Proofs.Yteaddpieonkboaa.PPolygonTurned
open Go.RowKit Go.Proofs.YteaddpieonkboaaW.PrintWords Go.Proofs.YteaddpieonkboaaW.PrintLast Go.Proofs.YteaddpieonkboaaW.PrintMore
attribute [local go_sem] max2_int min2_int max_two min_two max_three min_three max_four min_four   -- for this text's walks alone
set_option linter.unusedVariables false
set_option linter.unusedSimpArgs false

/-! ### polygon_locate: function 46 -/
mutual
def polygon_locate.l0 : Nat → List (S25) → Int → List (S25) → Int → Int → Int → Int → Option (Int)
  | 0, _, _, _, _, _, _, _ => none
  | k + 1, x0, x5, x10, x11, x12, x166000, x166001 => if x12 < x11 then (if 0 ≤ x12 then (if x12 < (x10.length : Int) then (if (x0.length : Int) = 0 then (none) else (if 0 ≤ (Int.tmod (wrap64 ((wrap64 (x12 + (x0.length : Int))) - 1)) (x0.length : Int)) then (if (Int.tmod (wrap64 ((wrap64 (x12 + (x0.length : Int))) - 1)) (x0.length : Int)) < (x0.length : Int) then ((plane_Turn.f ((rd_T25 x0 (Int.tmod (wrap64 ((wrap64 (x12 + (x0.length : Int))) - 1)) (x0.length : Int))).f0) ((rd_T25 x0 (Int.tmod (wrap64 ((wrap64 (x12 + (x0.length : Int))) - 1)) (x0.length : Int))).f1) ((rd_T25 x10 x12).f0) ((rd_T25 x10 x12).f1) x166000 x166001).bind fun t170 => (if t170 = 0 then ((polygon_on.f ((rd_T25 x0 (Int.tmod (wrap64 ((wrap64 (x12 + (x0.length : Int))) - 1)) (x0.length : Int))).f0) ((rd_T25 x0 (Int.tmod (wrap64 ((wrap64 (x12 + (x0.length : Int))) - 1)) (x0.length : Int))).f1) ((rd_T25 x10 x12).f0) ((rd_T25 x10 x12).f1) x166000 x166001).bind fun t171 => (polygon_locate.j1 k x0 x5 t170 x10 x11 x12 t171 x166000 x166001 ((rd_T25 x10 x12).f0) ((rd_T25 x10 x12).f1) ((rd_T25 x0 (Int.tmod (wrap64 ((wrap64 (x12 + (x0.length : Int))) - 1)) (x0.length : Int))).f0) ((rd_T25 x0 (Int.tmod (wrap64 ((wrap64 (x12 + (x0.length : Int))) - 1)) (x0.length : Int))).f1))) else (polygon_locate.j1 k x0 x5 t170 x10 x11 x12 false x166000 x166001 ((rd_T25 x10 x12).f0) ((rd_T25 x10 x12).f1) ((rd_T25 x0 (Int.tmod (wrap64 ((wrap64 (x12 + (x0.length : Int))) - 1)) (x0.length : Int))).f0) ((rd_T25 x0 (Int.tmod (wrap64 ((wrap64 (x12 + (x0.length : Int))) - 1)) (x0.length : Int))).f1)))) else (none)) else (none))) else (none)) else (none)) else (some x5)
def polygon_locate.j1 : Nat → List (S25) → Int → Int → List (S25) → Int → Int → Bool → Int → Int → Int → Int → Int → Int → Option (Int)
  | 0, _, _, _, _, _, _, _, _, _, _, _, _, _ => none
  | k + 1, x0, x5, x9, x10, x11, x12, x39, x166000, x166001, x168000, x168001, x170000, x170001 => if x39 = true then (some 0) else (if x170001 ≤ x166001 then (if x166001 < x168001 then (if x9 > 0 then (polygon_locate.l0 k x0 (wrap64 (-x5)) x10 x11 (wrap64 (x12 + 1)) x166000 x166001) else (if x168001 ≤ x166001 then (if x166001 < x170001 then (if x9 < 0 then (polygon_locate.l0 k x0 (wrap64 (-x5)) x10 x11 (wrap64 (x12 + 1)) x166000 x166001) else (polygon_locate.l0 k x0 x5 x10 x11 (wrap64 (x12 + 1)) x166000 x166001)) else (polygon_locate.l0 k x0 x5 x10 x11 (wrap64 (x12 + 1)) x166000 x166001)) else (polygon_locate.l0 k x0 x5 x10 x11 (wrap64 (x12 + 1)) x166000 x166001))) else (if x168001 ≤ x166001 then (if x166001 < x170001 then (if x9 < 0 then (polygon_locate.l0 k x0 (wrap64 (-x5)) x10 x11 (wrap64 (x12 + 1)) x166000 x166001) else (polygon_locate.l0 k x0 x5 x10 x11 (wrap64 (x12 + 1)) x166000 x166001)) else (polygon_locate.l0 k x0 x5 x10 x11 (wrap64 (x12 + 1)) x166000 x166001)) else (polygon_locate.l0 k x0 x5 x10 x11 (wrap64 (x12 + 1)) x166000 x166001))) else (if x168001 ≤ x166001 then (if x166001 < x170001 then (if x9 < 0 then (polygon_locate.l0 k x0 (wrap64 (-x5)) x10 x11 (wrap64 (x12 + 1)) x166000 x166001) else (polygon_locate.l0 k x0 x5 x10 x11 (wrap64 (x12 + 1)) x166000 x166001)) else (polygon_locate.l0 k x0 x5 x10 x11 (wrap64 (x12 + 1)) x166000 x166001)) else (polygon_locate.l0 k x0 x5 x10 x11 (wrap64 (x12 + 1)) x166000 x166001)))
end
def polygon_locate.f (k : Nat) (l0 : List (S25)) (a1_0 : Int) (a1_1 : Int) : Option (Int) := polygon_locate.l0 k l0 (-1) l0 (l0.length : Int) 0 a1_0 a1_1
theorem polygon_locate.mono_l : ∀ k, (∀ y0 y1 y2 y3 y4 y5 y6, LeO (polygon_locate.l0 k y0 y1 y2 y3 y4 y5 y6) (polygon_locate.l0 (k + 1) y0 y1 y2 y3 y4 y5 y6)) ∧ (∀ y0 y1 y2 y3 y4 y5 y6 y7 y8 y9 y10 y11 y12, LeO (polygon_locate.j1 k y0 y1 y2 y3 y4 y5 y6 y7 y8 y9 y10 y11 y12) (polygon_locate.j1 (k + 1) y0 y1 y2 y3 y4 y5 y6 y7 y8 y9 y10 y11 y12))
  | 0 => ⟨fun _ _ _ _ _ _ _ r h => by simp [polygon_locate.l0] at h, fun _ _ _ _ _ _ _ _ _ _ _ _ _ r h => by simp [polygon_locate.j1] at h⟩
  | k + 1 => by
    obtain ⟨ih0, ih1⟩ := polygon_locate.mono_l k
    refine ⟨?_, ?_⟩
    · intro y0 y1 y2 y3 y4 y5 y6
      unfold polygon_locate.l0
      repeat' first
      | (with_reducible exact ih0 _ _ _ _ _ _ _)
      | (with_reducible exact ih1 _ _ _ _ _ _ _ _ _ _ _ _ _)
      | (with_reducible exact LeO.refl _)
      | (with_reducible exact LeO.none _)
      | (with_reducible refine LeO.ite ?_ ?_)
      | (with_reducible refine LeO.bind ?_ (fun _ => ?_))
      | exact ih0 _ _ _ _ _ _ _
      | exact ih1 _ _ _ _ _ _ _ _ _ _ _ _ _
      | exact LeO.none _
      | refine LeO.ite ?_ ?_
      | refine LeO.bind ?_ (fun _ => ?_)
    · intro y0 y1 y2 y3 y4 y5 y6 y7 y8 y9 y10 y11 y12
      unfold polygon_locate.j1
      repeat' first
      | (with_reducible exact ih0 _ _ _ _ _ _ _)
      | (with_reducible exact ih1 _ _ _ _ _ _ _ _ _ _ _ _ _)
      | (with_reducible exact LeO.refl _)
      | (with_reducible exact LeO.none _)
      | (with_reducible refine LeO.ite ?_ ?_)
      | (with_reducible refine LeO.bind ?_ (fun _ => ?_))
      | exact ih0 _ _ _ _ _ _ _
      | exact ih1 _ _ _ _ _ _ _ _ _ _ _ _ _
      | exact LeO.none _
      | refine LeO.ite ?_ ?_
      | refine LeO.bind ?_ (fun _ => ?_)
theorem polygon_locate.mono : ∀ a0 a1 a2 k, LeO (polygon_locate.f k a0 a1 a2) (polygon_locate.f (k + 1) a0 a1 a2) := by
  intro a0 a1 a2 k
  obtain ⟨ih0, ih1⟩ := polygon_locate.mono_l k
  unfold polygon_locate.f
  repeat' first
      | (with_reducible exact ih0 _ _ _ _ _ _ _)
      | (with_reducible exact ih1 _ _ _ _ _ _ _ _ _ _ _ _ _)
      | (with_reducible exact LeO.refl _)
      | (with_reducible exact LeO.none _)
      | (with_reducible refine LeO.ite ?_ ?_)
      | (with_reducible refine LeO.bind ?_ (fun _ => ?_))
      | exact ih0 _ _ _ _ _ _ _
      | exact ih1 _ _ _ _ _ _ _ _ _ _ _ _ _
      | exact LeO.none _
      | refine LeO.ite ?_ ?_
      | refine LeO.bind ?_ (fun _ => ?_)
set_option maxHeartbeats 8000000 in
set_option maxRecDepth 100000 in
theorem polygon_locate.calls (k : Nat) (A0 : Option Addr) (c0 : Nat) (l0 : List (S25)) (a1_0 : Int) (a1_1 : Int) (r : Int) (w : World) (hr0 : Kd.C k25 w A0 l0.length l0) (hc0 : l0.length ≤ c0) (h : polygon_locate.f k l0 a1_0 a1_1 = some r) :
    Calls Try.prog 46 #[.slice A0 l0.length c0, .agg #[.int .i64 a1_0, .int .i64 a1_1]] w fun e w' => e = .returned (.int .i64 r) ∧ Below w.heap.size w w' := by
 have hu25 := Try.underlying25
 have HR0 := Aside0.mk hr0; have HC0 := Aside0.mk hc0; clear hr0 hc0
 have HB := Aside0.mk (Below.refl w.heap.size w)
 have H : (polygon_locate.l0 k l0 (-1) l0 (l0.length : Int) 0 a1_0 a1_1) = some r := h
 clear h
 have H' := Aside0.mk H
 clear H
 go_enter Try.func46, Try.ntmps46
 go_wp2_with (first | ((with_reducible refine gate_dst (N := 3) rfl ?_); refine box_event ?hg (N := 3) ?hd (cs := #[.int .i64 a1_0, .int .i64 a1_1]) (t := 25) ?hr ?_; (case hd => rfl); (case hg => rfl); (case hr => first | (go_simp; done) | (go_simp; rfl)); intro gb165 hg w3 hbox hb; have n0_ := Aside0.mk (below_step (by repeat (first | (with_reducible first | exact HB.out | apply below_alloc | apply pw_below_drewN | apply below_drew1) | exact HB.out)) hb); have n1_ := Aside0.mk (hbox); have n2_ := Aside0.mk ((by rw [hg]; exact (below_size (by repeat (first | (with_reducible first | exact HB.out | apply below_alloc | apply pw_below_drewN | apply below_drew1) | exact HB.out))) : w.heap.size ≤ gb165)); have n3_ := Aside0.mk ((by rw [hg]; exact (below_size (by repeat (first | (with_reducible first | exact HB.out | apply below_alloc | apply pw_below_drewN | apply below_drew1) | exact HB.out))) : w.heap.size ≤ gb165)); clear HB; have HB := n0_; have BK165 := n1_; have GW165 := n2_; have GE165 := n3_; clear n0_ n1_ n2_ n3_; clear hb hbox hg))
 go_loopg [5, 12] k (fun kq v5 v12 w' => ∃ (x5_1 : Int) (x12_1 : Int), v5 = .int .i64 x5_1 ∧ v12 = .int .i64 x12_1 ∧ Aside0 (polygon_locate.l0 kq l0 x5_1 l0 (l0.length : Int) x12_1 a1_0 a1_1 = some r) ∧ Aside0 (kq ≤ k) ∧ Aside0 (w'.heap[gb165]? = some (.cells #[.int .i64 a1_0, .int .i64 a1_1] 25 (0, 0))) ∧ Aside0 (Below w.heap.size w w'))
 case atStart => exact ⟨((-1)), (0), (by first | rfl | (simp; done) | (simp [*]; done)), (by first | rfl | (simp; done) | (simp [*]; done)), H', ⟨Nat.le_refl _⟩, ⟨by (with_reducible repeat (first | refine blk_drewN ?_ _ | refine blk_drew ?_ | refine blk_alloc ?_ _)); exact BK165.out⟩, ⟨by repeat (first | (with_reducible first | exact HB.out | apply below_alloc | apply pw_below_drewN | apply below_drew1 | refine below_set ?_ GE165.out) | exact HB.out)⟩⟩
 case round =>
  clear H'
  (try clear p2)
  obtain ⟨x5_1, x12_1, rfl, rfl, HA, HK1, BK165, HB⟩ := hrel
  cases gk with
  | zero => exact absurd HA.out (by simp [polygon_locate.l0])
  | succ k1 =>
   have H := HA.out; clear HA
   simp only [polygon_locate.l0] at H
   by_cases c4 : x12_1 < (l0.length : Int)
   · rw [if_pos c4] at H
     have c4b0 : decide (x12_1 < (l0.length : Int)) = true := decide_eq_true c4
     clear c4
     by_cases c5 : 0 ≤ x12_1
     · rw [if_pos c5] at H
       have c5b0 : decide (0 ≤ x12_1) = true := decide_eq_true c5
       clear c5
       by_cases c6 : x12_1 < (l0.length : Int)
       · rw [if_pos c6] at H
         have c6b0 : decide (x12_1 < (l0.length : Int)) = true := decide_eq_true c6
         clear c6
         by_cases c7 : (l0.length : Int) = 0
         · rw [if_pos c7] at H
           exact absurd H (by simp)
         · rw [if_neg c7] at H
           have c7b0 : ((l0.length : Int) == 0) = false := beq_eq_false_iff_ne.mpr c7
           have c7b1 : ((l0.length : Int) != 0) = true := bne_iff_ne.mpr c7
           have c7b2 : ¬ (l0 = []) := fun h_ => c7 (by rw [h_]; rfl)
           obtain ⟨ji8, hji8⟩ : ∃ j_ : Int, (Int.tmod (wrap64 ((wrap64 (x12_1 + (l0.length : Int))) - 1)) (l0.length : Int)) = j_ := ⟨_, rfl⟩
           replace H : (if 0 ≤ (ji8) then (if (ji8) < (l0.length : Int) then ((plane_Turn.f ((rd_T25 l0 (ji8)).f0) ((rd_T25 l0 (ji8)).f1) ((rd_T25 l0 x12_1).f0) ((rd_T25 l0 x12_1).f1) a1_0 a1_1).bind fun t170 => (if t170 = 0 then ((polygon_on.f ((rd_T25 l0 (ji8)).f0) ((rd_T25 l0 (ji8)).f1) ((rd_T25 l0 x12_1).f0) ((rd_T25 l0 x12_1).f1) a1_0 a1_1).bind fun t171 => (polygon_locate.j1 k1 l0 x5_1 t170 l0 (l0.length : Int) x12_1 t171 a1_0 a1_1 ((rd_T25 l0 x12_1).f0) ((rd_T25 l0 x12_1).f1) ((rd_T25 l0 (ji8)).f0) ((rd_T25 l0 (ji8)).f1))) else (polygon_locate.j1 k1 l0 x5_1 t170 l0 (l0.length : Int) x12_1 false a1_0 a1_1 ((rd_T25 l0 x12_1).f0) ((rd_T25 l0 x12_1).f1) ((rd_T25 l0 (ji8)).f0) ((rd_T25 l0 (ji8)).f1)))) else (none)) else (none)) = some r := by first | (rw [hji8] at H; exact H) | (simp only [hji8] at H ⊢; exact H)
           by_cases c9 : 0 ≤ (ji8)
           · rw [if_pos c9] at H
             have c9b0 : decide (0 ≤ (ji8)) = true := decide_eq_true c9
             clear c9
             by_cases c10 : (ji8) < (l0.length : Int)
             · rw [if_pos c10] at H
               have c10b0 : decide ((ji8) < (l0.length : Int)) = true := decide_eq_true c10
               clear c10
               replace H := Option.bind_eq_some_iff.mp H
               obtain ⟨t170, A110, H⟩ := H
               replace H : (if t170 = 0 then ((polygon_on.f ((rd_T25 l0 (ji8)).f0) ((rd_T25 l0 (ji8)).f1) ((rd_T25 l0 x12_1).f0) ((rd_T25 l0 x12_1).f1) a1_0 a1_1).bind fun t171 => (polygon_locate.j1 k1 l0 x5_1 t170 l0 (l0.length : Int) x12_1 t171 a1_0 a1_1 ((rd_T25 l0 x12_1).f0) ((rd_T25 l0 x12_1).f1) ((rd_T25 l0 (ji8)).f0) ((rd_T25 l0 (ji8)).f1))) else (polygon_locate.j1 k1 l0 x5_1 t170 l0 (l0.length : Int) x12_1 false a1_0 a1_1 ((rd_T25 l0 x12_1).f0) ((rd_T25 l0 x12_1).f1) ((rd_T25 l0 (ji8)).f0) ((rd_T25 l0 (ji8)).f1))) = some r := H
               have A11 := Aside0.mk A110; clear A110; have HC12 := Aside0.mk H; clear H
               have p166 : 0 ≤ (x12_1 : Int) := of_decide_eq_true (by first | (with_reducible assumption) | assumption)
               have q166 : x12_1 < (l0.length : Int) := of_decide_eq_true (by first | (with_reducible assumption) | assumption)
               obtain ⟨ad166, e166, hx166_0, hx166_1⟩ := at_T25 HR0.out x12_1 p166 q166
               cases e166
               replace hx166_0 := (HB.out.cell (World.block_lt_of_cell? w _ hx166_0)).trans hx166_0
               replace hx166_1 := (HB.out.cell (World.block_lt_of_cell? w _ hx166_1)).trans hx166_1
               replace p166 := eq_true p166; replace q166 := eq_true q166
               go_upto_region 7 with (first | ((with_reducible refine gate_dst (N := 7) rfl ?_); refine box_event ?hg (N := 7) ?hd (cs := #[.int .i64 0, .int .i64 0]) (t := 25) ?hr ?_; (case hd => rfl); (case hg => rfl); (case hr => first | (go_simp; done) | (go_simp; rfl)); intro gb167 hg wxbd6b1 hbox hb; have n0_ := Aside0.mk (blk_below (g := gb165) (o := .cells #[.int .i64 a1_0, .int .i64 a1_1] 25 (0, 0)) (by (with_reducible repeat (first | refine blk_drewN ?_ _ | refine blk_drew ?_ | refine blk_alloc ?_ _)); exact BK165.out) hb); have n1_ := Aside0.mk (below_step (by repeat (first | (with_reducible first | exact HB.out | apply below_alloc | apply pw_below_drewN | apply below_drew1 | refine below_set ?_ GE165.out) | exact HB.out)) hb); have n2_ := Aside0.mk (hbox); have n3_ := Aside0.mk ((by rw [hg]; exact (below_size (by repeat (first | (with_reducible first | exact HB.out | apply below_alloc | apply pw_below_drewN | apply below_drew1 | refine below_set ?_ GE165.out) | exact HB.out))) : w.heap.size ≤ gb167)); have n4_ := Aside0.mk ((by rw [hg]; exact (below_size (by repeat (first | (with_reducible first | exact HB.out | apply below_alloc | apply pw_below_drewN | apply below_drew1 | refine below_set ?_ GE165.out) | exact HB.out))) : w.heap.size ≤ gb167)); have n5_ := Aside0.mk ((by rw [hg]; exact Nat.ne_of_lt (blk_lt (g := gb165) (o := .cells #[.int .i64 a1_0, .int .i64 a1_1] 25 (0, 0)) (by (with_reducible repeat (first | refine blk_drewN ?_ _ | refine blk_drew ?_ | refine blk_alloc ?_ _)); exact BK165.out)) : gb165 ≠ gb167)); have n6_ := Aside0.mk ((by rw [hg]; exact Nat.ne_of_gt (blk_lt (g := gb165) (o := .cells #[.int .i64 a1_0, .int .i64 a1_1] 25 (0, 0)) (by (with_reducible repeat (first | refine blk_drewN ?_ _ | refine blk_drew ?_ | refine blk_alloc ?_ _)); exact BK165.out)) : gb167 ≠ gb165)); clear BK165; clear HB; have BK165 := n0_; have HB := n1_; have BK167 := n2_; have GW167 := n3_; have GE167 := n4_; have NB165_167 := n5_; have NB167_165 := n6_; clear n0_ n1_ n2_ n3_ n4_ n5_ n6_; clear hb hbox hg; have hnbxbd6b1 := NB167_165.out; have hncxbd6b1 := NB165_167.out; have hczxbd6b1 : wxbd6b1.cell? ⟨gb167, 0, none⟩ = some (.int .i64 0) := (blk_cell BK167.out 0).trans rfl; have hczxbd6b2 : wxbd6b1.cell? ⟨gb167, 1, none⟩ = some (.int .i64 0) := (blk_cell BK167.out 1).trans rfl; have hfzxbd6b1 := blk_frozen BK167.out 0; have hfzxbd6b2 := blk_frozen BK167.out 1; have p168 : 0 ≤ ((ji8) : Int) := of_decide_eq_true (by first | (with_reducible assumption) | assumption); have q168 : (ji8) < (l0.length : Int) := of_decide_eq_true (by first | (with_reducible assumption) | assumption); obtain ⟨ad168, e168, hx168_0, hx168_1⟩ := at_T25 HR0.out (ji8) p168 q168; obtain rfl : ad166 = ad168 := (by injection e168); have hn168_0 : ad166.block ≠ gb167 := Nat.ne_of_lt (Nat.lt_of_lt_of_le (by have := World.block_lt_of_cell? _ _ hx168_0; first | rwa [add_block] at this | exact this) GW167.out); have hn168_1 : ad166.block ≠ gb167 := Nat.ne_of_lt (Nat.lt_of_lt_of_le (by have := World.block_lt_of_cell? _ _ hx168_0; first | rwa [add_block] at this | exact this) GW167.out); replace hx168_0 := (HB.out.cell (World.block_lt_of_cell? w _ hx168_0)).trans hx168_0; replace hx168_1 := (HB.out.cell (World.block_lt_of_cell? w _ hx168_1)).trans hx168_1; replace hx168_0 := (cell_far (p := ⟨gb167, 0, none⟩) (by first | (rw [add_block]; exact hn168_0) | (show (Addr.add _ _).block ≠ _; rw [add_block]; exact hn168_0) | exact hn168_0) (.int .i64 ((rd_T25 l0 x12_1).f0))).trans hx168_0; replace hx168_1 := (cell_far (p := ⟨gb167, 0, none⟩) (by first | (rw [add_block]; exact hn168_0) | (show (Addr.add _ _).block ≠ _; rw [add_block]; exact hn168_0) | exact hn168_0) (.int .i64 ((rd_T25 l0 x12_1).f0))).trans hx168_1; replace hx168_0 := (cell_far (p := ⟨gb167, 1, none⟩) (by first | (rw [add_block]; exact hn168_1) | (show (Addr.add _ _).block ≠ _; rw [add_block]; exact hn168_1) | exact hn168_1) (.int .i64 ((rd_T25 l0 x12_1).f1))).trans hx168_0; replace hx168_1 := (cell_far (p := ⟨gb167, 1, none⟩) (by first | (rw [add_block]; exact hn168_1) | (show (Addr.add _ _).block ≠ _; rw [add_block]; exact hn168_1) | exact hn168_1) (.int .i64 ((rd_T25 l0 x12_1).f1))).trans hx168_1; clear hn168_0; clear hn168_1; replace p168 := eq_true p168; replace q168 := eq_true q168) | ((with_reducible refine gate_dst (N := 8) rfl ?_); refine box_event ?hg (N := 8) ?hd (cs := #[.int .i64 0, .int .i64 0]) (t := 25) ?hr ?_; (case hd => rfl); (case hg => rfl); (case hr => first | (go_simp; done) | (go_simp; rfl)); intro gb169 hg wx12ef1 hbox hb; have n0_ := Aside0.mk (blk_below (g := gb165) (o := .cells #[.int .i64 a1_0, .int .i64 a1_1] 25 (0, 0)) (by (with_reducible repeat (first | refine blk_drewN ?_ _ | refine blk_drew ?_ | refine blk_alloc ?_ _)); refine blk_far ?_ NB165_167.out _; (with_reducible repeat (first | refine blk_drewN ?_ _ | refine blk_drew ?_ | refine blk_alloc ?_ _)); refine blk_far ?_ NB165_167.out _; (with_reducible repeat (first | refine blk_drewN ?_ _ | refine blk_drew ?_ | refine blk_alloc ?_ _)); exact BK165.out) hb); have n1_ := Aside0.mk (blk_below (g := gb167) (o := .cells #[.int .i64 ((rd_T25 l0 x12_1).f0), .int .i64 ((rd_T25 l0 x12_1).f1)] 25 (0, 0)) (by (with_reducible repeat (first | refine blk_drewN ?_ _ | refine blk_drew ?_ | refine blk_alloc ?_ _)); refine blk_put (cs := #[.int .i64 ((rd_T25 l0 x12_1).f0), .int .i64 0]) ?_ 1 _ rfl; (with_reducible repeat (first | refine blk_drewN ?_ _ | refine blk_drew ?_ | refine blk_alloc ?_ _)); refine blk_put (cs := #[.int .i64 0, .int .i64 0]) ?_ 0 _ rfl; (with_reducible repeat (first | refine blk_drewN ?_ _ | refine blk_drew ?_ | refine blk_alloc ?_ _)); exact BK167.out) hb); have n2_ := Aside0.mk (below_step (by repeat (first | (with_reducible first | exact HB.out | apply below_alloc | apply pw_below_drewN | apply below_drew1 | refine below_set ?_ GE165.out | refine below_set ?_ GE167.out) | exact HB.out)) hb); have n3_ := Aside0.mk (hbox); have n4_ := Aside0.mk ((by rw [hg]; exact (below_size (by repeat (first | (with_reducible first | exact HB.out | apply below_alloc | apply pw_below_drewN | apply below_drew1 | refine below_set ?_ GE165.out | refine below_set ?_ GE167.out) | exact HB.out))) : w.heap.size ≤ gb169)); have n5_ := Aside0.mk ((by rw [hg]; exact (below_size (by repeat (first | (with_reducible first | exact HB.out | apply below_alloc | apply pw_below_drewN | apply below_drew1 | refine below_set ?_ GE165.out | refine below_set ?_ GE167.out) | exact HB.out))) : w.heap.size ≤ gb169)); have n6_ := Aside0.mk ((by rw [hg]; exact Nat.ne_of_lt (blk_lt (g := gb165) (o := .cells #[.int .i64 a1_0, .int .i64 a1_1] 25 (0, 0)) (by (with_reducible repeat (first | refine blk_drewN ?_ _ | refine blk_drew ?_ | refine blk_alloc ?_ _)); refine blk_far ?_ NB165_167.out _; (with_reducible repeat (first | refine blk_drewN ?_ _ | refine blk_drew ?_ | refine blk_alloc ?_ _)); refine blk_far ?_ NB165_167.out _; (with_reducible repeat (first | refine blk_drewN ?_ _ | refine blk_drew ?_ | refine blk_alloc ?_ _)); exact BK165.out)) : gb165 ≠ gb169)); have n7_ := Aside0.mk ((by rw [hg]; exact Nat.ne_of_gt (blk_lt (g := gb165) (o := .cells #[.int .i64 a1_0, .int .i64 a1_1] 25 (0, 0)) (by (with_reducible repeat (first | refine blk_drewN ?_ _ | refine blk_drew ?_ | refine blk_alloc ?_ _)); refine blk_far ?_ NB165_167.out _; (with_reducible repeat (first | refine blk_drewN ?_ _ | refine blk_drew ?_ | refine blk_alloc ?_ _)); refine blk_far ?_ NB165_167.out _; (with_reducible repeat (first | refine blk_drewN ?_ _ | refine blk_drew ?_ | refine blk_alloc ?_ _)); exact BK165.out)) : gb169 ≠ gb165)); have n8_ := Aside0.mk ((by rw [hg]; exact Nat.ne_of_lt (blk_lt (g := gb167) (o := .cells #[.int .i64 ((rd_T25 l0 x12_1).f0), .int .i64 ((rd_T25 l0 x12_1).f1)] 25 (0, 0)) (by (with_reducible repeat (first | refine blk_drewN ?_ _ | refine blk_drew ?_ | refine blk_alloc ?_ _)); refine blk_put (cs := #[.int .i64 ((rd_T25 l0 x12_1).f0), .int .i64 0]) ?_ 1 _ rfl; (with_reducible repeat (first | refine blk_drewN ?_ _ | refine blk_drew ?_ | refine blk_alloc ?_ _)); refine blk_put (cs := #[.int .i64 0, .int .i64 0]) ?_ 0 _ rfl; (with_reducible repeat (first | refine blk_drewN ?_ _ | refine blk_drew ?_ | refine blk_alloc ?_ _)); exact BK167.out)) : gb167 ≠ gb169)); have n9_ := Aside0.mk ((by rw [hg]; exact Nat.ne_of_gt (blk_lt (g := gb167) (o := .cells #[.int .i64 ((rd_T25 l0 x12_1).f0), .int .i64 ((rd_T25 l0 x12_1).f1)] 25 (0, 0)) (by (with_reducible repeat (first | refine blk_drewN ?_ _ | refine blk_drew ?_ | refine blk_alloc ?_ _)); refine blk_put (cs := #[.int .i64 ((rd_T25 l0 x12_1).f0), .int .i64 0]) ?_ 1 _ rfl; (with_reducible repeat (first | refine blk_drewN ?_ _ | refine blk_drew ?_ | refine blk_alloc ?_ _)); refine blk_put (cs := #[.int .i64 0, .int .i64 0]) ?_ 0 _ rfl; (with_reducible repeat (first | refine blk_drewN ?_ _ | refine blk_drew ?_ | refine blk_alloc ?_ _)); exact BK167.out)) : gb169 ≠ gb167)); clear BK165; clear BK167; clear HB; have BK165 := n0_; have BK167 := n1_; have HB := n2_; have BK169 := n3_; have GW169 := n4_; have GE169 := n5_; have NB165_169 := n6_; have NB169_165 := n7_; have NB167_169 := n8_; have NB169_167 := n9_; clear n0_ n1_ n2_ n3_ n4_ n5_ n6_ n7_ n8_ n9_; clear hb hbox hg; have hnbx12ef1 := NB169_165.out; have hncx12ef1 := NB165_169.out; have hnbx12ef2 := NB169_167.out; have hncx12ef2 := NB167_169.out; have hczx12ef1 : wx12ef1.cell? ⟨gb169, 0, none⟩ = some (.int .i64 0) := (blk_cell BK169.out 0).trans rfl; have hczx12ef2 : wx12ef1.cell? ⟨gb169, 1, none⟩ = some (.int .i64 0) := (blk_cell BK169.out 1).trans rfl; have hfzx12ef1 := blk_frozen BK169.out 0; have hfzx12ef2 := blk_frozen BK169.out 1; have hczx12ef3 : wx12ef1.cell? ⟨gb167, 0, none⟩ = some (.int .i64 ((rd_T25 l0 x12_1).f0)) := (blk_cell BK167.out 0).trans rfl; have hczx12ef4 : wx12ef1.cell? ⟨gb167, 1, none⟩ = some (.int .i64 ((rd_T25 l0 x12_1).f1)) := (blk_cell BK167.out 1).trans rfl; have hfzx12ef3 := blk_frozen BK167.out 0; have hfzx12ef4 := blk_frozen BK167.out 1; have hczx12ef5 : wx12ef1.cell? ⟨gb165, 0, none⟩ = some (.int .i64 a1_0) := (blk_cell BK165.out 0).trans rfl; have hczx12ef6 : wx12ef1.cell? ⟨gb165, 1, none⟩ = some (.int .i64 a1_1) := (blk_cell BK165.out 1).trans rfl; have hfzx12ef5 := blk_frozen BK165.out 0; have hfzx12ef6 := blk_frozen BK165.out 1) | ((with_reducible refine gate_callee (f := 25) rfl ?_); refine goesL_ (some 31) rfl rfl Try.func25 (by kernel_rfl) rfl #[.agg #[.int .i64 ((rd_T25 l0 (ji8)).f0), .int .i64 ((rd_T25 l0 (ji8)).f1)], .agg #[.int .i64 ((rd_T25 l0 x12_1).f0), .int .i64 ((rd_T25 l0 x12_1).f1)], .agg #[.int .i64 a1_0, .int .i64 a1_1]] rfl (by (try simp only [List.map_toArray, List.map_cons, List.map_nil]); first | done | (simp only [hji8]; rfl) | rfl | (simp only [List.length_drop, List.length_take]; rfl)) ?_; (with_reducible refine (plane_Turn.calls ((rd_T25 l0 (ji8)).f0) ((rd_T25 l0 (ji8)).f1) ((rd_T25 l0 x12_1).f0) ((rd_T25 l0 x12_1).f1) a1_0 a1_1 t170 _ A11.out).mono ?_); rintro e wxd9f61 ⟨rfl, hb⟩; refine ⟨_, rfl, ?_⟩; have n0_ := Aside0.mk (blk_below (g := gb165) (o := .cells #[.int .i64 a1_0, .int .i64 a1_1] 25 (0, 0)) (by (with_reducible repeat (first | refine blk_drewN ?_ _ | refine blk_drew ?_ | refine blk_alloc ?_ _)); refine blk_far ?_ NB165_169.out _; (with_reducible repeat (first | refine blk_drewN ?_ _ | refine blk_drew ?_ | refine blk_alloc ?_ _)); refine blk_far ?_ NB165_169.out _; (with_reducible repeat (first | refine blk_drewN ?_ _ | refine blk_drew ?_ | refine blk_alloc ?_ _)); exact BK165.out) hb); have n1_ := Aside0.mk (blk_below (g := gb167) (o := .cells #[.int .i64 ((rd_T25 l0 x12_1).f0), .int .i64 ((rd_T25 l0 x12_1).f1)] 25 (0, 0)) (by (with_reducible repeat (first | refine blk_drewN ?_ _ | refine blk_drew ?_ | refine blk_alloc ?_ _)); refine blk_far ?_ NB167_169.out _; (with_reducible repeat (first | refine blk_drewN ?_ _ | refine blk_drew ?_ | refine blk_alloc ?_ _)); refine blk_far ?_ NB167_169.out _; (with_reducible repeat (first | refine blk_drewN ?_ _ | refine blk_drew ?_ | refine blk_alloc ?_ _)); exact BK167.out) hb); have n2_ := Aside0.mk (blk_below (g := gb169) (o := .cells #[.int .i64 ((rd_T25 l0 (ji8)).f0), .int .i64 ((rd_T25 l0 (ji8)).f1)] 25 (0, 0)) (by (with_reducible repeat (first | refine blk_drewN ?_ _ | refine blk_drew ?_ | refine blk_alloc ?_ _)); refine blk_put (cs := #[.int .i64 ((rd_T25 l0 (ji8)).f0), .int .i64 0]) ?_ 1 _ rfl; (with_reducible repeat (first | refine blk_drewN ?_ _ | refine blk_drew ?_ | refine blk_alloc ?_ _)); refine blk_put (cs := #[.int .i64 0, .int .i64 0]) ?_ 0 _ rfl; (with_reducible repeat (first | refine blk_drewN ?_ _ | refine blk_drew ?_ | refine blk_alloc ?_ _)); exact BK169.out) hb); have n3_ := Aside0.mk (below_step (by repeat (first | (with_reducible first | exact HB.out | apply below_alloc | apply pw_below_drewN | apply below_drew1 | refine below_set ?_ GE165.out | refine below_set ?_ GE167.out | refine below_set ?_ GE169.out) | exact HB.out)) hb); clear BK165; clear BK167; clear BK169; clear HB; have BK165 := n0_; have BK167 := n1_; have BK169 := n2_; have HB := n3_; clear n0_ n1_ n2_ n3_; (try clear hb); (try clear hb2); (try clear hk); (try clear hi)))
               (try simp only [Act.put, List.setIfInBounds_toArray, List.set_cons_zero, List.set_cons_succ])
               go_cut [39] (fun v39 wc => ∃ (kq : Nat) (x39_11 : Bool), v39 = .bool x39_11 ∧ Aside0 (polygon_locate.j1 kq l0 x5_1 t170 l0 (l0.length : Int) x12_1 x39_11 a1_0 a1_1 ((rd_T25 l0 x12_1).f0) ((rd_T25 l0 x12_1).f1) ((rd_T25 l0 (ji8)).f0) ((rd_T25 l0 (ji8)).f1) = some r) ∧ Aside0 (kq ≤ k1) ∧ Aside0 (wc.heap[gb165]? = some (.cells #[.int .i64 a1_0, .int .i64 a1_1] 25 (0, 0))) ∧ Aside0 (wc.heap[gb167]? = some (.cells #[.int .i64 ((rd_T25 l0 x12_1).f0), .int .i64 ((rd_T25 l0 x12_1).f1)] 25 (0, 0))) ∧ Aside0 (wc.heap[gb169]? = some (.cells #[.int .i64 ((rd_T25 l0 (ji8)).f0), .int .i64 ((rd_T25 l0 (ji8)).f1)] 25 (0, 0))) ∧ Aside0 (Below w.heap.size w wc))
               case first =>
                have H := HC12.out; clear HC12
                refine Or.elim (Classical.em (t170 = 0)) (fun c23 => ?p2_) (fun c23 => ?n2_)
                case' p2_ =>
                 rw [if_pos c23] at H
                 have c23b0 : (t170 == 0) = true := beq_iff_eq.mpr c23
                 have c23b1 : (t170 != 0) = false := bne_eq_false_iff_eq.mpr c23
                 clear c23
                 (first | rw [c23b0] | (simp only [i64_w, i32_w]; rw [c23b0]) | skip)
                 replace H := Option.bind_eq_some_iff.mp H
                 obtain ⟨t171, A240, H⟩ := H
                 replace H : (polygon_locate.j1 k1 l0 x5_1 t170 l0 (l0.length : Int) x12_1 t171 a1_0 a1_1 ((rd_T25 l0 x12_1).f0) ((rd_T25 l0 x12_1).f1) ((rd_T25 l0 (ji8)).f0) ((rd_T25 l0 (ji8)).f1)) = some r := H
                 have A24 := Aside0.mk A240; clear A240; have hm1_0 := Aside0.mk trivial
                case' n2_ =>
                 rw [if_neg c23] at H
                 have c23b0 : (t170 == 0) = false := beq_eq_false_iff_ne.mpr c23
                 have c23b1 : (t170 != 0) = true := bne_iff_ne.mpr c23
                 (first | rw [c23b0] | (simp only [i64_w, i32_w]; rw [c23b0]) | skip)
                 have hm1_1 := Aside0.mk trivial
                all_goals
                 have H' := Aside0.mk H
                 clear H
                 first
                  | clear hm1_0; have hnbzd1 := NB169_165.out; have hnczd1 := NB165_169.out; have hnbzd2 := NB169_167.out; have hnczd2 := NB167_169.out
                    have hczzd1 : wxd9f61.cell? ⟨gb169, 0, none⟩ = some (.int .i64 ((rd_T25 l0 (ji8)).f0)) := (blk_cell BK169.out 0).trans rfl
                    have hczzd2 : wxd9f61.cell? ⟨gb169, 1, none⟩ = some (.int .i64 ((rd_T25 l0 (ji8)).f1)) := (blk_cell BK169.out 1).trans rfl
                    have hfzzd1 := blk_frozen BK169.out 0; have hfzzd2 := blk_frozen BK169.out 1; have hnbzd3 := NB167_165.out; have hnczd3 := NB165_167.out
                    have hczzd3 : wxd9f61.cell? ⟨gb167, 0, none⟩ = some (.int .i64 ((rd_T25 l0 x12_1).f0)) := (blk_cell BK167.out 0).trans rfl
                    have hczzd4 : wxd9f61.cell? ⟨gb167, 1, none⟩ = some (.int .i64 ((rd_T25 l0 x12_1).f1)) := (blk_cell BK167.out 1).trans rfl
                    have hfzzd3 := blk_frozen BK167.out 0; have hfzzd4 := blk_frozen BK167.out 1
                    have hczzd5 : wxd9f61.cell? ⟨gb165, 0, none⟩ = some (.int .i64 a1_0) := (blk_cell BK165.out 0).trans rfl
                    have hczzd6 : wxd9f61.cell? ⟨gb165, 1, none⟩ = some (.int .i64 a1_1) := (blk_cell BK165.out 1).trans rfl
                    have hfzzd5 := blk_frozen BK165.out 0; have hfzzd6 := blk_frozen BK165.out 1
                    go_wp2_with (first | (go_at_call 74; (with_reducible refine (polygon_on.calls ((rd_T25 l0 (ji8)).f0) ((rd_T25 l0 (ji8)).f1) ((rd_T25 l0 x12_1).f0) ((rd_T25 l0 x12_1).f1) a1_0 a1_1 t171 _ A24.out).mono ?_); rintro e wxc15e1 ⟨rfl, hb⟩; have n0_ := Aside0.mk (blk_below (g := gb165) (o := .cells #[.int .i64 a1_0, .int .i64 a1_1] 25 (0, 0)) (by (with_reducible repeat (first | refine blk_drewN ?_ _ | refine blk_drew ?_ | refine blk_alloc ?_ _)); exact BK165.out) hb); have n1_ := Aside0.mk (blk_below (g := gb167) (o := .cells #[.int .i64 ((rd_T25 l0 x12_1).f0), .int .i64 ((rd_T25 l0 x12_1).f1)] 25 (0, 0)) (by (with_reducible repeat (first | refine blk_drewN ?_ _ | refine blk_drew ?_ | refine blk_alloc ?_ _)); exact BK167.out) hb); have n2_ := Aside0.mk (blk_below (g := gb169) (o := .cells #[.int .i64 ((rd_T25 l0 (ji8)).f0), .int .i64 ((rd_T25 l0 (ji8)).f1)] 25 (0, 0)) (by (with_reducible repeat (first | refine blk_drewN ?_ _ | refine blk_drew ?_ | refine blk_alloc ?_ _)); exact BK169.out) hb); have n3_ := Aside0.mk (below_step (by repeat (first | (with_reducible first | exact HB.out | apply below_alloc | apply pw_below_drewN | apply below_drew1 | refine below_set ?_ GE165.out | refine below_set ?_ GE167.out | refine below_set ?_ GE169.out) | exact HB.out)) hb); clear BK165; clear BK167; clear BK169; clear HB; have BK165 := n0_; have BK167 := n1_; have BK169 := n2_; have HB := n3_; clear n0_ n1_ n2_ n3_; (try clear hb); (try clear hb2); (try clear hk); (try clear hi)))
                    go_meet
                    case rel => exact ⟨_, (t171), (by first | rfl | (simp; done) | (simp [*]; done)), H', ⟨by have := HK1.out; first | omega | exact Nat.le_refl _⟩, ⟨by (with_reducible repeat (first | refine blk_drewN ?_ _ | refine blk_drew ?_ | refine blk_alloc ?_ _)); exact BK165.out⟩, ⟨by (with_reducible repeat (first | refine blk_drewN ?_ _ | refine blk_drew ?_ | refine blk_alloc ?_ _)); exact BK167.out⟩, ⟨by (with_reducible repeat (first | refine blk_drewN ?_ _ | refine blk_drew ?_ | refine blk_alloc ?_ _)); exact BK169.out⟩, ⟨by repeat (first | (with_reducible first | exact HB.out | apply below_alloc | apply pw_below_drewN | apply below_drew1 | refine below_set ?_ GE165.out | refine below_set ?_ GE167.out | refine below_set ?_ GE169.out) | exact HB.out)⟩⟩
                  | clear hm1_1; go_wp2
                    go_meet
                    case rel => exact ⟨_, (false), (by first | rfl | (simp; done) | (simp [*]; done)), H', ⟨by have := HK1.out; first | omega | exact Nat.le_refl _⟩, ⟨by (with_reducible repeat (first | refine blk_drewN ?_ _ | refine blk_drew ?_ | refine blk_alloc ?_ _)); exact BK165.out⟩, ⟨by (with_reducible repeat (first | refine blk_drewN ?_ _ | refine blk_drew ?_ | refine blk_alloc ?_ _)); exact BK167.out⟩, ⟨by (with_reducible repeat (first | refine blk_drewN ?_ _ | refine blk_drew ?_ | refine blk_alloc ?_ _)); exact BK169.out⟩, ⟨by repeat (first | (with_reducible first | exact HB.out | apply below_alloc | apply pw_below_drewN | apply below_drew1 | refine below_set ?_ GE165.out | refine below_set ?_ GE167.out | refine below_set ?_ GE169.out) | exact HB.out)⟩⟩
               case rest =>
                clear HC12
                (try clear c1); (try clear p1); (try clear q1); (try clear hx1); (try clear c2); (try clear p2); (try clear c4); (try clear c4b0); (try clear c5); (try clear c5b0); (try clear c6); (try clear c6b0); (try clear p6); (try clear c7); (try clear c7b0); (try clear c7b1); (try clear c7b2); (try clear c9); (try clear c9b0); (try clear c10); (try clear c10b0); (try clear c14); (try clear p16); (try clear q16); (try clear hx16); (try clear c17); (try clear c18); (try clear c23); (try clear c23b0); (try clear c23b1); (try clear c25); (try clear c26); (try clear c28); (try clear hczxbd6b1); (try clear hczxbd6b2); (try clear hczx12ef1); (try clear hczx12ef2); (try clear hczx12ef3); (try clear hczx12ef4); (try clear hczx12ef5)
                (try clear hczx12ef6); (try clear hczzc1); (try clear hczzc2); (try clear hczzc3); (try clear hczzc4); (try clear hczzc5); (try clear hczzc6); (try clear hfzxbd6b1); (try clear hfzxbd6b2); (try clear hfzx12ef1); (try clear hfzx12ef2); (try clear hfzx12ef3); (try clear hfzx12ef4); (try clear hfzx12ef5); (try clear hfzx12ef6); (try clear hfzzc1); (try clear hfzzc2); (try clear hfzzc3); (try clear hfzzc4); (try clear hfzzc5); (try clear hfzzc6); (try clear hx166_0); (try clear hx166_1); (try clear hx168_0); (try clear hx168_1); (try clear p166); (try clear p168); (try clear p2); (try clear q166); (try clear q168)
                obtain ⟨kq, x39_11, rfl, HA, HJ11, BK165, BK167, BK169, HB⟩ := hcut
                cases kq with
                | zero => exact absurd HA.out (by simp [polygon_locate.j1])
                | succ kj11 =>
                 have H := HA.out; clear HA
                 simp only [polygon_locate.j1] at H
                 refine Or.elim (Classical.em (x39_11 = true)) (fun c32 => ?p4_) (fun c32 => ?n4_)
                 case' p4_ =>
                  subst c32
                  have H1 : (some 0) = some r := by rw [if_pos rfl] at H; exact H
                  clear H; have H := H1; clear H1; have hm3_0 := Aside0.mk trivial
                 case' n4_ =>
                  replace c32 := Bool.eq_false_iff.mpr c32
                  subst c32
                  have H1 : (if ((rd_T25 l0 (ji8)).f1) ≤ a1_1 then (if a1_1 < ((rd_T25 l0 x12_1).f1) then (if t170 > 0 then (polygon_locate.l0 kj11 l0 (wrap64 (-x5_1)) l0 (l0.length : Int) (wrap64 (x12_1 + 1)) a1_0 a1_1) else (if ((rd_T25 l0 x12_1).f1) ≤ a1_1 then (if a1_1 < ((rd_T25 l0 (ji8)).f1) then (if t170 < 0 then (polygon_locate.l0 kj11 l0 (wrap64 (-x5_1)) l0 (l0.length : Int) (wrap64 (x12_1 + 1)) a1_0 a1_1) else (polygon_locate.l0 kj11 l0 x5_1 l0 (l0.length : Int) (wrap64 (x12_1 + 1)) a1_0 a1_1)) else (polygon_locate.l0 kj11 l0 x5_1 l0 (l0.length : Int) (wrap64 (x12_1 + 1)) a1_0 a1_1)) else (polygon_locate.l0 kj11 l0 x5_1 l0 (l0.length : Int) (wrap64 (x12_1 + 1)) a1_0 a1_1))) else (if ((rd_T25 l0 x12_1).f1) ≤ a1_1 then (if a1_1 < ((rd_T25 l0 (ji8)).f1) then (if t170 < 0 then (polygon_locate.l0 kj11 l0 (wrap64 (-x5_1)) l0 (l0.length : Int) (wrap64 (x12_1 + 1)) a1_0 a1_1) else (polygon_locate.l0 kj11 l0 x5_1 l0 (l0.length : Int) (wrap64 (x12_1 + 1)) a1_0 a1_1)) else (polygon_locate.l0 kj11 l0 x5_1 l0 (l0.length : Int) (wrap64 (x12_1 + 1)) a1_0 a1_1)) else (polygon_locate.l0 kj11 l0 x5_1 l0 (l0.length : Int) (wrap64 (x12_1 + 1)) a1_0 a1_1))) else (if ((rd_T25 l0 x12_1).f1) ≤ a1_1 then (if a1_1 < ((rd_T25 l0 (ji8)).f1) then (if t170 < 0 then (polygon_locate.l0 kj11 l0 (wrap64 (-x5_1)) l0 (l0.length : Int) (wrap64 (x12_1 + 1)) a1_0 a1_1) else (polygon_locate.l0 kj11 l0 x5_1 l0 (l0.length : Int) (wrap64 (x12_1 + 1)) a1_0 a1_1)) else (polygon_locate.l0 kj11 l0 x5_1 l0 (l0.length : Int) (wrap64 (x12_1 + 1)) a1_0 a1_1)) else (polygon_locate.l0 kj11 l0 x5_1 l0 (l0.length : Int) (wrap64 (x12_1 + 1)) a1_0 a1_1))) = some r := by rw [if_neg (show ¬ (false = true) by decide)] at H; exact H
                  clear H; have H := H1; clear H1
                  refine Or.elim (Classical.em (((rd_T25 l0 (ji8)).f1) ≤ a1_1)) (fun c33 => ?p5_) (fun c33 => ?n5_)
                  case' p5_ =>
                   rw [if_pos c33] at H
                   have c33b0 : decide (((rd_T25 l0 (ji8)).f1) ≤ a1_1) = true := decide_eq_true c33
                   clear c33
                   refine Or.elim (Classical.em (a1_1 < ((rd_T25 l0 x12_1).f1))) (fun c34 => ?p6_) (fun c34 => ?n6_)
                   case' p6_ =>
                    rw [if_pos c34] at H
                    have c34b0 : decide (a1_1 < ((rd_T25 l0 x12_1).f1)) = true := decide_eq_true c34
                    clear c34
                    refine Or.elim (Classical.em (t170 > 0)) (fun c35 => ?p7_) (fun c35 => ?n7_)
                    case' p7_ =>
                     rw [if_pos c35] at H
                     have c35b0 : decide (0 < t170) = true := decide_eq_true c35
                     clear c35; have hm3_1 := Aside0.mk trivial
                    case' n7_ =>
                     rw [if_neg c35] at H
                     have c35b0 : decide (0 < t170) = false := decide_eq_false c35
                     clear c35
                     refine Or.elim (Classical.em (((rd_T25 l0 x12_1).f1) ≤ a1_1)) (fun c42 => ?p8_) (fun c42 => ?n8_)
                     case' p8_ =>
                      rw [if_pos c42] at H
                      have c42b0 : decide (((rd_T25 l0 x12_1).f1) ≤ a1_1) = true := decide_eq_true c42
                      clear c42
                      refine Or.elim (Classical.em (a1_1 < ((rd_T25 l0 (ji8)).f1))) (fun c43 => ?p9_) (fun c43 => ?n9_)
                      case' p9_ =>
                       rw [if_pos c43] at H
                       have c43b0 : decide (a1_1 < ((rd_T25 l0 (ji8)).f1)) = true := decide_eq_true c43
                       clear c43
                       refine Or.elim (Classical.em (t170 < 0)) (fun c44 => ?p10_) (fun c44 => ?n10_)
                       case' p10_ =>
                        rw [if_pos c44] at H
                        have c44b0 : decide (t170 < 0) = true := decide_eq_true c44
                        clear c44; have hm3_1 := Aside0.mk trivial
                       case' n10_ =>
                        rw [if_neg c44] at H
                        have c44b0 : decide (t170 < 0) = false := decide_eq_false c44
                        clear c44; have hm3_1 := Aside0.mk trivial
                      case' n9_ =>
                       rw [if_neg c43] at H
                       have c43b0 : decide (a1_1 < ((rd_T25 l0 (ji8)).f1)) = false := decide_eq_false c43
                       clear c43; have hm3_1 := Aside0.mk trivial
                     case' n8_ =>
                      rw [if_neg c42] at H
                      have c42b0 : decide (((rd_T25 l0 x12_1).f1) ≤ a1_1) = false := decide_eq_false c42
                      clear c42; have hm3_1 := Aside0.mk trivial
                   case' n6_ =>
                    rw [if_neg c34] at H
                    have c34b0 : decide (a1_1 < ((rd_T25 l0 x12_1).f1)) = false := decide_eq_false c34
                    clear c34
                    refine Or.elim (Classical.em (((rd_T25 l0 x12_1).f1) ≤ a1_1)) (fun c69 => ?p11_) (fun c69 => ?n11_)
                    case' p11_ =>
                     rw [if_pos c69] at H
                     have c69b0 : decide (((rd_T25 l0 x12_1).f1) ≤ a1_1) = true := decide_eq_true c69
                     clear c69
                     refine Or.elim (Classical.em (a1_1 < ((rd_T25 l0 (ji8)).f1))) (fun c70 => ?p12_) (fun c70 => ?n12_)
                     case' p12_ =>
                      rw [if_pos c70] at H
                      have c70b0 : decide (a1_1 < ((rd_T25 l0 (ji8)).f1)) = true := decide_eq_true c70
                      clear c70
                      refine Or.elim (Classical.em (t170 < 0)) (fun c71 => ?p13_) (fun c71 => ?n13_)
                      case' p13_ =>
                       rw [if_pos c71] at H
                       have c71b0 : decide (t170 < 0) = true := decide_eq_true c71
                       clear c71; have hm3_1 := Aside0.mk trivial
                      case' n13_ =>
                       rw [if_neg c71] at H
                       have c71b0 : decide (t170 < 0) = false := decide_eq_false c71
                       clear c71; have hm3_1 := Aside0.mk trivial
                     case' n12_ =>
                      rw [if_neg c70] at H
                      have c70b0 : decide (a1_1 < ((rd_T25 l0 (ji8)).f1)) = false := decide_eq_false c70
                      clear c70; have hm3_1 := Aside0.mk trivial
                    case' n11_ =>
                     rw [if_neg c69] at H
                     have c69b0 : decide (((rd_T25 l0 x12_1).f1) ≤ a1_1) = false := decide_eq_false c69
                     clear c69; have hm3_1 := Aside0.mk trivial
                  case' n5_ =>
                   rw [if_neg c33] at H
                   have c33b0 : decide (((rd_T25 l0 (ji8)).f1) ≤ a1_1) = false := decide_eq_false c33
                   clear c33
                   refine Or.elim (Classical.em (((rd_T25 l0 x12_1).f1) ≤ a1_1)) (fun c96 => ?p14_) (fun c96 => ?n14_)
                   case' p14_ =>
                    rw [if_pos c96] at H
                    have c96b0 : decide (((rd_T25 l0 x12_1).f1) ≤ a1_1) = true := decide_eq_true c96
                    clear c96
                    refine Or.elim (Classical.em (a1_1 < ((rd_T25 l0 (ji8)).f1))) (fun c97 => ?p15_) (fun c97 => ?n15_)
                    case' p15_ =>
                     rw [if_pos c97] at H
                     have c97b0 : decide (a1_1 < ((rd_T25 l0 (ji8)).f1)) = true := decide_eq_true c97
                     clear c97
                     refine Or.elim (Classical.em (t170 < 0)) (fun c98 => ?p16_) (fun c98 => ?n16_)
                     case' p16_ =>
                      rw [if_pos c98] at H
                      have c98b0 : decide (t170 < 0) = true := decide_eq_true c98
                      clear c98; have hm3_1 := Aside0.mk trivial
                     case' n16_ =>
                      rw [if_neg c98] at H
                      have c98b0 : decide (t170 < 0) = false := decide_eq_false c98
                      clear c98; have hm3_1 := Aside0.mk trivial
                    case' n15_ =>
                     rw [if_neg c97] at H
                     have c97b0 : decide (a1_1 < ((rd_T25 l0 (ji8)).f1)) = false := decide_eq_false c97
                     clear c97; have hm3_1 := Aside0.mk trivial
                   case' n14_ =>
                    rw [if_neg c96] at H
                    have c96b0 : decide (((rd_T25 l0 x12_1).f1) ≤ a1_1) = false := decide_eq_false c96
                    clear c96; have hm3_1 := Aside0.mk trivial
                 all_goals
                  first
                   | clear hm3_0; obtain rfl := Option.some.inj H; go_wp2; go_ret
                     exact ⟨by first | rfl | (simp [errW_none, errW_some] <;> rfl) | (simp only [← hji8]; first | rfl | (simp [errW_none, errW_some] <;> rfl)) | (simp [*, errW_none, errW_some] <;> rfl), by repeat (first | (with_reducible first | exact HB.out | apply below_alloc | apply pw_below_drewN | apply below_drew1 | refine below_set ?_ GE165.out | refine below_set ?_ GE167.out | refine below_set ?_ GE169.out) | exact HB.out)⟩
                   | clear hm3_1
                     have H' := Aside0.mk H
                     clear H; have hnbze1 := NB169_165.out; have hncze1 := NB165_169.out; have hnbze2 := NB169_167.out; have hncze2 := NB167_169.out
                     have hczze1 : wc.cell? ⟨gb169, 0, none⟩ = some (.int .i64 ((rd_T25 l0 (ji8)).f0)) := (blk_cell BK169.out 0).trans rfl
                     have hczze2 : wc.cell? ⟨gb169, 1, none⟩ = some (.int .i64 ((rd_T25 l0 (ji8)).f1)) := (blk_cell BK169.out 1).trans rfl
                     have hfzze1 := blk_frozen BK169.out 0; have hfzze2 := blk_frozen BK169.out 1; have hnbze3 := NB165_167.out; have hncze3 := NB167_165.out
                     have hczze3 : wc.cell? ⟨gb165, 0, none⟩ = some (.int .i64 a1_0) := (blk_cell BK165.out 0).trans rfl
                     have hczze4 : wc.cell? ⟨gb165, 1, none⟩ = some (.int .i64 a1_1) := (blk_cell BK165.out 1).trans rfl
                     have hfzze3 := blk_frozen BK165.out 0; have hfzze4 := blk_frozen BK165.out 1
                     have hczze5 : wc.cell? ⟨gb167, 0, none⟩ = some (.int .i64 ((rd_T25 l0 x12_1).f0)) := (blk_cell BK167.out 0).trans rfl
                     have hczze6 : wc.cell? ⟨gb167, 1, none⟩ = some (.int .i64 ((rd_T25 l0 x12_1).f1)) := (blk_cell BK167.out 1).trans rfl
                     have hfzze5 := blk_frozen BK167.out 0; have hfzze6 := blk_frozen BK167.out 1; go_wp2
                     first | go_roundg kj11 | (subst hji8; go_roundg kj11)
                     case measure => have := HK1.out; have := HJ11.out; omega
                     case rel => first | (exact ⟨(wrap64 (-x5_1)), (wrap64 (x12_1 + 1)), (by first | rfl | (simp; done) | (simp [*]; done)), (by first | rfl | (simp; done) | (simp [*]; done)), H', ⟨by have := HK1.out; have := HJ11.out; omega⟩, ⟨by (with_reducible repeat (first | refine blk_drewN ?_ _ | refine blk_drew ?_ | refine blk_alloc ?_ _)); exact BK165.out⟩, ⟨by repeat (first | (with_reducible first | exact HB.out | apply below_alloc | apply pw_below_drewN | apply below_drew1 | refine below_set ?_ GE165.out | refine below_set ?_ GE167.out | refine below_set ?_ GE169.out) | exact HB.out)⟩⟩) | (exact ⟨(x5_1), (wrap64 (x12_1 + 1)), (by first | rfl | (simp; done) | (simp [*]; done)), (by first | rfl | (simp; done) | (simp [*]; done)), H', ⟨by have := HK1.out; have := HJ11.out; omega⟩, ⟨by (with_reducible repeat (first | refine blk_drewN ?_ _ | refine blk_drew ?_ | refine blk_alloc ?_ _)); exact BK165.out⟩, ⟨by repeat (first | (with_reducible first | exact HB.out | apply below_alloc | apply pw_below_drewN | apply below_drew1 | refine below_set ?_ GE165.out | refine below_set ?_ GE167.out | refine below_set ?_ GE169.out) | exact HB.out)⟩⟩)
             · rw [if_neg c10] at H
               exact absurd H (by simp)
           · rw [if_neg c9] at H
             exact absurd H (by simp)
       · rw [if_neg c6] at H
         exact absurd H (by simp)
     · rw [if_neg c5] at H
       exact absurd H (by simp)
   · rw [if_neg c4] at H
     have c4b0 : decide (x12_1 < (l0.length : Int)) = false := decide_eq_false c4
     clear c4; obtain rfl := Option.some.inj H; go_wp2; go_ret
     exact ⟨by first | rfl | (simp [errW_none, errW_some] <;> rfl) | (simp [*, errW_none, errW_some] <;> rfl), by repeat (first | (with_reducible first | exact HB.out | apply below_alloc | apply pw_below_drewN | apply below_drew1 | refine below_set ?_ GE165.out) | exact HB.out)⟩

/-! ### plane_Square: function 28 -/
def plane_Square.f (a0_0 : Int) (a0_1 : Int) (a1_0 : Int) (a1_1 : Int) : Option (Int) := (plane_Sub.f a0_0 a0_1 a1_0 a1_1).bind fun bt174 => ((plane_Dot.f bt174.1 bt174.2 bt174.1 bt174.2).bind fun t177 => (some t177))
set_option maxHeartbeats 8000000 in
set_option maxRecDepth 100000 in
theorem plane_Square.calls (a0_0 : Int) (a0_1 : Int) (a1_0 : Int) (a1_1 : Int) (r : Int) (w : World) (h : plane_Square.f a0_0 a0_1 a1_0 a1_1 = some r) :
    Calls Try.prog 28 #[.agg #[.int .i64 a0_0, .int .i64 a0_1], .agg #[.int .i64 a1_0, .int .i64 a1_1]] w fun e w' => e = .returned (.int .i64 r) ∧ Below w.heap.size w w' := by
 have hu25 := Try.underlying25
 have HB := Aside0.mk (Below.refl w.heap.size w)
 have H : ((plane_Sub.f a0_0 a0_1 a1_0 a1_1).bind fun bt174 => ((plane_Dot.f bt174.1 bt174.2 bt174.1 bt174.2).bind fun t177 => (some t177))) = some r := h
 clear h
 replace H := Option.bind_eq_some_iff.mp H
 obtain ⟨⟨t174, t175⟩, A30, H⟩ := H
 replace H : ((plane_Dot.f t174 t175 t174 t175).bind fun t177 => (some t177)) = some r := H
 have A3 := Aside0.mk A30; clear A30
 replace H := Option.bind_eq_some_iff.mp H
 obtain ⟨t177, A40, H⟩ := H
 replace H : (some t177) = some r := H
 have A4 := Aside0.mk A40; clear A40; obtain rfl := Option.some.inj H
 go_enter Try.func28, Try.ntmps28
 go_wp2_with (first | ((with_reducible refine gate_dst (N := 2) rfl ?_); refine box_event ?hg (N := 2) ?hd (cs := #[.int .i64 a0_0, .int .i64 a0_1]) (t := 25) ?hr ?_; (case hd => rfl); (case hg => rfl); (case hr => first | (go_simp; done) | (go_simp; rfl)); intro gb172 hg w5 hbox hb; have n0_ := Aside0.mk (below_step (by repeat (first | (with_reducible first | exact HB.out | apply below_alloc | apply pw_below_drewN | apply below_drew1) | exact HB.out)) hb); have n1_ := Aside0.mk (hbox); have n2_ := Aside0.mk ((by rw [hg]; exact (below_size (by repeat (first | (with_reducible first | exact HB.out | apply below_alloc | apply pw_below_drewN | apply below_drew1) | exact HB.out))) : w.heap.size ≤ gb172)); have n3_ := Aside0.mk ((by rw [hg]; exact (below_size (by repeat (first | (with_reducible first | exact HB.out | apply below_alloc | apply pw_below_drewN | apply below_drew1) | exact HB.out))) : w.heap.size ≤ gb172)); clear HB; have HB := n0_; have BK172 := n1_; have GW172 := n2_; have GE172 := n3_; clear n0_ n1_ n2_ n3_; clear hb hbox hg) | ((with_reducible refine gate_dst (N := 3) rfl ?_); refine box_event ?hg (N := 3) ?hd (cs := #[.int .i64 a1_0, .int .i64 a1_1]) (t := 25) ?hr ?_; (case hd => rfl); (case hg => rfl); (case hr => first | (go_simp; done) | (go_simp; rfl)); intro gb173 hg w6 hbox hb; have n0_ := Aside0.mk (blk_below (g := gb172) (o := .cells #[.int .i64 a0_0, .int .i64 a0_1] 25 (0, 0)) (by (with_reducible repeat (first | refine blk_drewN ?_ _ | refine blk_drew ?_ | refine blk_alloc ?_ _)); exact BK172.out) hb); have n1_ := Aside0.mk (below_step (by repeat (first | (with_reducible first | exact HB.out | apply below_alloc | apply pw_below_drewN | apply below_drew1 | refine below_set ?_ GE172.out) | exact HB.out)) hb); have n2_ := Aside0.mk (hbox); have n3_ := Aside0.mk ((by rw [hg]; exact (below_size (by repeat (first | (with_reducible first | exact HB.out | apply below_alloc | apply pw_below_drewN | apply below_drew1 | refine below_set ?_ GE172.out) | exact HB.out))) : w.heap.size ≤ gb173)); have n4_ := Aside0.mk ((by rw [hg]; exact (below_size (by repeat (first | (with_reducible first | exact HB.out | apply below_alloc | apply pw_below_drewN | apply below_drew1 | refine below_set ?_ GE172.out) | exact HB.out))) : w.heap.size ≤ gb173)); have n5_ := Aside0.mk ((by rw [hg]; exact Nat.ne_of_lt (blk_lt (g := gb172) (o := .cells #[.int .i64 a0_0, .int .i64 a0_1] 25 (0, 0)) (by (with_reducible repeat (first | refine blk_drewN ?_ _ | refine blk_drew ?_ | refine blk_alloc ?_ _)); exact BK172.out)) : gb172 ≠ gb173)); have n6_ := Aside0.mk ((by rw [hg]; exact Nat.ne_of_gt (blk_lt (g := gb172) (o := .cells #[.int .i64 a0_0, .int .i64 a0_1] 25 (0, 0)) (by (with_reducible repeat (first | refine blk_drewN ?_ _ | refine blk_drew ?_ | refine blk_alloc ?_ _)); exact BK172.out)) : gb173 ≠ gb172)); clear BK172; clear HB; have BK172 := n0_; have HB := n1_; have BK173 := n2_; have GW173 := n3_; have GE173 := n4_; have NB172_173 := n5_; have NB173_172 := n6_; clear n0_ n1_ n2_ n3_ n4_ n5_ n6_; clear hb hbox hg; have hnb7 := NB172_173.out; have hnc7 := NB173_172.out; have hcz8_0 : w6.cell? ⟨gb172, 0, none⟩ = some (.int .i64 a0_0) := (blk_cell BK172.out 0).trans rfl; have hcz8_1 : w6.cell? ⟨gb172, 1, none⟩ = some (.int .i64 a0_1) := (blk_cell BK172.out 1).trans rfl; have hfz8_0 := blk_frozen BK172.out 0; have hfz8_1 := blk_frozen BK172.out 1; have hcz9_0 : w6.cell? ⟨gb173, 0, none⟩ = some (.int .i64 a1_0) := (blk_cell BK173.out 0).trans rfl; have hcz9_1 : w6.cell? ⟨gb173, 1, none⟩ = some (.int .i64 a1_1) := (blk_cell BK173.out 1).trans rfl; have hfz9_0 := blk_frozen BK173.out 0; have hfz9_1 := blk_frozen BK173.out 1) | ((with_reducible refine gate_callee (f := 53) rfl ?_); refine goesL_ (some 8) rfl rfl Try.func53 (by kernel_rfl) rfl #[.agg #[.int .i64 a0_0, .int .i64 a0_1], .agg #[.int .i64 a1_0, .int .i64 a1_1]] rfl (by (try simp only [List.map_toArray, List.map_cons, List.map_nil]); first | done | rfl | (simp only [List.length_drop, List.length_take]; rfl)) ?_; (with_reducible refine (plane_Sub.calls a0_0 a0_1 a1_0 a1_1 t174 t175 _ A3.out).mono ?_); rintro e w10 ⟨rfl, hb⟩; refine ⟨_, rfl, ?_⟩; have n0_ := Aside0.mk (blk_below (g := gb172) (o := .cells #[.int .i64 a0_0, .int .i64 a0_1] 25 (0, 0)) (by (with_reducible repeat (first | refine blk_drewN ?_ _ | refine blk_drew ?_ | refine blk_alloc ?_ _)); exact BK172.out) hb); have n1_ := Aside0.mk (blk_below (g := gb173) (o := .cells #[.int .i64 a1_0, .int .i64 a1_1] 25 (0, 0)) (by (with_reducible repeat (first | refine blk_drewN ?_ _ | refine blk_drew ?_ | refine blk_alloc ?_ _)); exact BK173.out) hb); have n2_ := Aside0.mk (below_step (by repeat (first | (with_reducible first | exact HB.out | apply below_alloc | apply pw_below_drewN | apply below_drew1 | refine below_set ?_ GE172.out | refine below_set ?_ GE173.out) | exact HB.out)) hb); clear BK172; clear BK173; clear HB; have BK172 := n0_; have BK173 := n1_; have HB := n2_; clear n0_ n1_ n2_; (try clear hb); (try clear hb2); (try clear hk); (try clear hi)) | ((with_reducible refine gate_dst (N := 5) rfl ?_); refine box_event ?hg (N := 5) ?hd (cs := #[.int .i64 0, .int .i64 0]) (t := 25) ?hr ?_; (case hd => rfl); (case hg => rfl); (case hr => first | (go_simp; done) | (go_simp; rfl)); intro gb176 hg w11 hbox hb; have n0_ := Aside0.mk (blk_below (g := gb172) (o := .cells #[.int .i64 a0_0, .int .i64 a0_1] 25 (0, 0)) (by (with_reducible repeat (first | refine blk_drewN ?_ _ | refine blk_drew ?_ | refine blk_alloc ?_ _)); exact BK172.out) hb); have n1_ := Aside0.mk (blk_below (g := gb173) (o := .cells #[.int .i64 a1_0, .int .i64 a1_1] 25 (0, 0)) (by (with_reducible repeat (first | refine blk_drewN ?_ _ | refine blk_drew ?_ | refine blk_alloc ?_ _)); exact BK173.out) hb); have n2_ := Aside0.mk (below_step (by repeat (first | (with_reducible first | exact HB.out | apply below_alloc | apply pw_below_drewN | apply below_drew1 | refine below_set ?_ GE172.out | refine below_set ?_ GE173.out) | exact HB.out)) hb); have n3_ := Aside0.mk (hbox); have n4_ := Aside0.mk ((by rw [hg]; exact (below_size (by repeat (first | (with_reducible first | exact HB.out | apply below_alloc | apply pw_below_drewN | apply below_drew1 | refine below_set ?_ GE172.out | refine below_set ?_ GE173.out) | exact HB.out))) : w.heap.size ≤ gb176)); have n5_ := Aside0.mk ((by rw [hg]; exact (below_size (by repeat (first | (with_reducible first | exact HB.out | apply below_alloc | apply pw_below_drewN | apply below_drew1 | refine below_set ?_ GE172.out | refine below_set ?_ GE173.out) | exact HB.out))) : w.heap.size ≤ gb176)); have n6_ := Aside0.mk ((by rw [hg]; exact Nat.ne_of_lt (blk_lt (g := gb172) (o := .cells #[.int .i64 a0_0, .int .i64 a0_1] 25 (0, 0)) (by (with_reducible repeat (first | refine blk_drewN ?_ _ | refine blk_drew ?_ | refine blk_alloc ?_ _)); exact BK172.out)) : gb172 ≠ gb176)); have n7_ := Aside0.mk ((by rw [hg]; exact Nat.ne_of_gt (blk_lt (g := gb172) (o := .cells #[.int .i64 a0_0, .int .i64 a0_1] 25 (0, 0)) (by (with_reducible repeat (first | refine blk_drewN ?_ _ | refine blk_drew ?_ | refine blk_alloc ?_ _)); exact BK172.out)) : gb176 ≠ gb172)); have n8_ := Aside0.mk ((by rw [hg]; exact Nat.ne_of_lt (blk_lt (g := gb173) (o := .cells #[.int .i64 a1_0, .int .i64 a1_1] 25 (0, 0)) (by (with_reducible repeat (first | refine blk_drewN ?_ _ | refine blk_drew ?_ | refine blk_alloc ?_ _)); exact BK173.out)) : gb173 ≠ gb176)); have n9_ := Aside0.mk ((by rw [hg]; exact Nat.ne_of_gt (blk_lt (g := gb173) (o := .cells #[.int .i64 a1_0, .int .i64 a1_1] 25 (0, 0)) (by (with_reducible repeat (first | refine blk_drewN ?_ _ | refine blk_drew ?_ | refine blk_alloc ?_ _)); exact BK173.out)) : gb176 ≠ gb173)); clear BK172; clear BK173; clear HB; have BK172 := n0_; have BK173 := n1_; have HB := n2_; have BK176 := n3_; have GW176 := n4_; have GE176 := n5_; have NB172_176 := n6_; have NB176_172 := n7_; have NB173_176 := n8_; have NB176_173 := n9_; clear n0_ n1_ n2_ n3_ n4_ n5_ n6_ n7_ n8_ n9_; clear hb hbox hg; have hnb12 := NB176_172.out; have hnc12 := NB172_176.out; have hnb13 := NB176_173.out; have hnc13 := NB173_176.out; have hcz14_0 : w11.cell? ⟨gb176, 0, none⟩ = some (.int .i64 0) := (blk_cell BK176.out 0).trans rfl; have hcz14_1 : w11.cell? ⟨gb176, 1, none⟩ = some (.int .i64 0) := (blk_cell BK176.out 1).trans rfl; have hfz14_0 := blk_frozen BK176.out 0; have hfz14_1 := blk_frozen BK176.out 1) | ((with_reducible refine gate_callee (f := 55) rfl ?_); refine goesL_ (some 11) rfl rfl Try.func55 (by kernel_rfl) rfl #[.agg #[.int .i64 t174, .int .i64 t175], .agg #[.int .i64 t174, .int .i64 t175]] rfl (by (try simp only [List.map_toArray, List.map_cons, List.map_nil]); first | done | rfl | (simp only [List.length_drop, List.length_take]; rfl)) ?_; (with_reducible refine (plane_Dot.calls t174 t175 t174 t175 t177 _ A4.out).mono ?_); rintro e w15 ⟨rfl, hb⟩; refine ⟨_, rfl, ?_⟩; have n0_ := Aside0.mk (blk_below (g := gb172) (o := .cells #[.int .i64 a0_0, .int .i64 a0_1] 25 (0, 0)) (by (with_reducible repeat (first | refine blk_drewN ?_ _ | refine blk_drew ?_ | refine blk_alloc ?_ _)); refine blk_far ?_ NB172_176.out _; (with_reducible repeat (first | refine blk_drewN ?_ _ | refine blk_drew ?_ | refine blk_alloc ?_ _)); refine blk_far ?_ NB172_176.out _; (with_reducible repeat (first | refine blk_drewN ?_ _ | refine blk_drew ?_ | refine blk_alloc ?_ _)); exact BK172.out) hb); have n1_ := Aside0.mk (blk_below (g := gb173) (o := .cells #[.int .i64 a1_0, .int .i64 a1_1] 25 (0, 0)) (by (with_reducible repeat (first | refine blk_drewN ?_ _ | refine blk_drew ?_ | refine blk_alloc ?_ _)); refine blk_far ?_ NB173_176.out _; (with_reducible repeat (first | refine blk_drewN ?_ _ | refine blk_drew ?_ | refine blk_alloc ?_ _)); refine blk_far ?_ NB173_176.out _; (with_reducible repeat (first | refine blk_drewN ?_ _ | refine blk_drew ?_ | refine blk_alloc ?_ _)); exact BK173.out) hb); have n2_ := Aside0.mk (blk_below (g := gb176) (o := .cells #[.int .i64 t174, .int .i64 t175] 25 (0, 0)) (by (with_reducible repeat (first | refine blk_drewN ?_ _ | refine blk_drew ?_ | refine blk_alloc ?_ _)); refine blk_put (cs := #[.int .i64 t174, .int .i64 0]) ?_ 1 _ rfl; (with_reducible repeat (first | refine blk_drewN ?_ _ | refine blk_drew ?_ | refine blk_alloc ?_ _)); refine blk_put (cs := #[.int .i64 0, .int .i64 0]) ?_ 0 _ rfl; (with_reducible repeat (first | refine blk_drewN ?_ _ | refine blk_drew ?_ | refine blk_alloc ?_ _)); exact BK176.out) hb); have n3_ := Aside0.mk (below_step (by repeat (first | (with_reducible first | exact HB.out | apply below_alloc | apply pw_below_drewN | apply below_drew1 | refine below_set ?_ GE172.out | refine below_set ?_ GE173.out | refine below_set ?_ GE176.out) | exact HB.out)) hb); clear BK172; clear BK173; clear BK176; clear HB; have BK172 := n0_; have BK173 := n1_; have BK176 := n2_; have HB := n3_; clear n0_ n1_ n2_ n3_; (try clear hb); (try clear hb2); (try clear hk); (try clear hi)))
 go_ret
 exact ⟨by first | rfl | (simp [errW_none, errW_some] <;> rfl) | (simp [*, errW_none, errW_some] <;> rfl), by repeat (first | (with_reducible first | exact HB.out | apply below_alloc | apply pw_below_drewN | apply below_drew1 | refine below_set ?_ GE172.out | refine below_set ?_ GE173.out | refine below_set ?_ GE176.out) | exact HB.out)⟩

/-! ### plane_Within: function 18 -/
def plane_Within.f (a0_0 : Int) (a0_1 : Int) (a1_0 : Int) (a1_1 : Int) (a2 : Int) : Option (Bool) := if a2 ≥ 0 then (if a2 ≤ 8000000 then ((plane_Square.f a0_0 a0_1 a1_0 a1_1).bind fun t180 => (some (decide (t180 ≤ (wrap64 (a2 * a2)))))) else (some false)) else (some false)
set_option maxHeartbeats 8000000 in
set_option maxRecDepth 100000 in
theorem plane_Within.calls (a0_0 : Int) (a0_1 : Int) (a1_0 : Int) (a1_1 : Int) (a2 : Int) (r : Bool) (w : World) (h : plane_Within.f a0_0 a0_1 a1_0 a1_1 a2 = some r) :
    Calls Try.prog 18 #[.agg #[.int .i64 a0_0, .int .i64 a0_1], .agg #[.int .i64 a1_0, .int .i64 a1_1], .int .i64 a2] w fun e w' => e = .returned (.bool r) ∧ Below w.heap.size w w' := by
 have hu25 := Try.underlying25
 have HB := Aside0.mk (Below.refl w.heap.size w)
 have H : (if a2 ≥ 0 then (if a2 ≤ 8000000 then ((plane_Square.f a0_0 a0_1 a1_0 a1_1).bind fun t180 => (some (decide (t180 ≤ (wrap64 (a2 * a2)))))) else (some false)) else (some false)) = some r := h
 clear h
 refine Or.elim (Classical.em (a2 ≥ 0)) (fun c4 => ?p2_) (fun c4 => ?n2_)
 case' p2_ =>
  rw [if_pos c4] at H
  have c4b0 : decide (0 ≤ a2) = true := decide_eq_true c4
  clear c4
  refine Or.elim (Classical.em (a2 ≤ 8000000)) (fun c5 => ?p3_) (fun c5 => ?n3_)
  case' p3_ =>
   rw [if_pos c5] at H
   have c5b0 : decide (a2 ≤ 8000000) = true := decide_eq_true c5
   clear c5
   replace H := Option.bind_eq_some_iff.mp H
   obtain ⟨t180, A60, H⟩ := H
   replace H : (some (decide (t180 ≤ (wrap64 (a2 * a2))))) = some r := H
   have A6 := Aside0.mk A60; clear A60
  case' n3_ =>
   rw [if_neg c5] at H
   have c5b0 : decide (a2 ≤ 8000000) = false := decide_eq_false c5
   clear c5
 case' n2_ =>
  rw [if_neg c4] at H
  have c4b0 : decide (0 ≤ a2) = false := decide_eq_false c4
  clear c4
 all_goals
  obtain rfl := Option.some.inj H
  go_enter Try.func18, Try.ntmps18
  go_wp2_with (first | ((with_reducible refine gate_dst (N := 3) rfl ?_); refine box_event ?hg (N := 3) ?hd (cs := #[.int .i64 a0_0, .int .i64 a0_1]) (t := 25) ?hr ?_; (case hd => rfl); (case hg => rfl); (case hr => first | (go_simp; done) | (go_simp; rfl)); intro gb178 hg wx41c41 hbox hb; have n0_ := Aside0.mk (below_step (by repeat (first | (with_reducible first | exact HB.out | apply below_alloc | apply pw_below_drewN | apply below_drew1) | exact HB.out)) hb); have n1_ := Aside0.mk (hbox); have n2_ := Aside0.mk ((by rw [hg]; exact (below_size (by repeat (first | (with_reducible first | exact HB.out | apply below_alloc | apply pw_below_drewN | apply below_drew1) | exact HB.out))) : w.heap.size ≤ gb178)); have n3_ := Aside0.mk ((by rw [hg]; exact (below_size (by repeat (first | (with_reducible first | exact HB.out | apply below_alloc | apply pw_below_drewN | apply below_drew1) | exact HB.out))) : w.heap.size ≤ gb178)); clear HB; have HB := n0_; have BK178 := n1_; have GW178 := n2_; have GE178 := n3_; clear n0_ n1_ n2_ n3_; clear hb hbox hg) | ((with_reducible refine gate_dst (N := 4) rfl ?_); refine box_event ?hg (N := 4) ?hd (cs := #[.int .i64 a1_0, .int .i64 a1_1]) (t := 25) ?hr ?_; (case hd => rfl); (case hg => rfl); (case hr => first | (go_simp; done) | (go_simp; rfl)); intro gb179 hg wxbdfa1 hbox hb; have n0_ := Aside0.mk (blk_below (g := gb178) (o := .cells #[.int .i64 a0_0, .int .i64 a0_1] 25 (0, 0)) (by (with_reducible repeat (first | refine blk_drewN ?_ _ | refine blk_drew ?_ | refine blk_alloc ?_ _)); exact BK178.out) hb); have n1_ := Aside0.mk (below_step (by repeat (first | (with_reducible first | exact HB.out | apply below_alloc | apply pw_below_drewN | apply below_drew1 | refine below_set ?_ GE178.out) | exact HB.out)) hb); have n2_ := Aside0.mk (hbox); have n3_ := Aside0.mk ((by rw [hg]; exact (below_size (by repeat (first | (with_reducible first | exact HB.out | apply below_alloc | apply pw_below_drewN | apply below_drew1 | refine below_set ?_ GE178.out) | exact HB.out))) : w.heap.size ≤ gb179)); have n4_ := Aside0.mk ((by rw [hg]; exact (below_size (by repeat (first | (with_reducible first | exact HB.out | apply below_alloc | apply pw_below_drewN | apply below_drew1 | refine below_set ?_ GE178.out) | exact HB.out))) : w.heap.size ≤ gb179)); have n5_ := Aside0.mk ((by rw [hg]; exact Nat.ne_of_lt (blk_lt (g := gb178) (o := .cells #[.int .i64 a0_0, .int .i64 a0_1] 25 (0, 0)) (by (with_reducible repeat (first | refine blk_drewN ?_ _ | refine blk_drew ?_ | refine blk_alloc ?_ _)); exact BK178.out)) : gb178 ≠ gb179)); have n6_ := Aside0.mk ((by rw [hg]; exact Nat.ne_of_gt (blk_lt (g := gb178) (o := .cells #[.int .i64 a0_0, .int .i64 a0_1] 25 (0, 0)) (by (with_reducible repeat (first | refine blk_drewN ?_ _ | refine blk_drew ?_ | refine blk_alloc ?_ _)); exact BK178.out)) : gb179 ≠ gb178)); clear BK178; clear HB; have BK178 := n0_; have HB := n1_; have BK179 := n2_; have GW179 := n3_; have GE179 := n4_; have NB178_179 := n5_; have NB179_178 := n6_; clear n0_ n1_ n2_ n3_ n4_ n5_ n6_; clear hb hbox hg; have hnbxbdfa1 := NB178_179.out; have hncxbdfa1 := NB179_178.out; have hczxbdfa1 : wxbdfa1.cell? ⟨gb178, 0, none⟩ = some (.int .i64 a0_0) := (blk_cell BK178.out 0).trans rfl; have hczxbdfa2 : wxbdfa1.cell? ⟨gb178, 1, none⟩ = some (.int .i64 a0_1) := (blk_cell BK178.out 1).trans rfl; have hfzxbdfa1 := blk_frozen BK178.out 0; have hfzxbdfa2 := blk_frozen BK178.out 1; have hczxbdfa3 : wxbdfa1.cell? ⟨gb179, 0, none⟩ = some (.int .i64 a1_0) := (blk_cell BK179.out 0).trans rfl; have hczxbdfa4 : wxbdfa1.cell? ⟨gb179, 1, none⟩ = some (.int .i64 a1_1) := (blk_cell BK179.out 1).trans rfl; have hfzxbdfa3 := blk_frozen BK179.out 0; have hfzxbdfa4 := blk_frozen BK179.out 1) | ((with_reducible refine gate_dst (N := 4) rfl ?_); refine box_event ?hg (N := 4) ?hd (cs := #[.int .i64 a1_0, .int .i64 a1_1]) (t := 25) ?hr ?_; (case hd => rfl); (case hg => rfl); (case hr => first | (go_simp; done) | (go_simp; rfl)); intro gb179 hg wx25b21 hbox hb; have n0_ := Aside0.mk (blk_below (g := gb178) (o := .cells #[.int .i64 a0_0, .int .i64 a0_1] 25 (0, 0)) (by (with_reducible repeat (first | refine blk_drewN ?_ _ | refine blk_drew ?_ | refine blk_alloc ?_ _)); exact BK178.out) hb); have n1_ := Aside0.mk (below_step (by repeat (first | (with_reducible first | exact HB.out | apply below_alloc | apply pw_below_drewN | apply below_drew1 | refine below_set ?_ GE178.out) | exact HB.out)) hb); have n2_ := Aside0.mk (hbox); have n3_ := Aside0.mk ((by rw [hg]; exact (below_size (by repeat (first | (with_reducible first | exact HB.out | apply below_alloc | apply pw_below_drewN | apply below_drew1 | refine below_set ?_ GE178.out) | exact HB.out))) : w.heap.size ≤ gb179)); have n4_ := Aside0.mk ((by rw [hg]; exact (below_size (by repeat (first | (with_reducible first | exact HB.out | apply below_alloc | apply pw_below_drewN | apply below_drew1 | refine below_set ?_ GE178.out) | exact HB.out))) : w.heap.size ≤ gb179)); have n5_ := Aside0.mk ((by rw [hg]; exact Nat.ne_of_lt (blk_lt (g := gb178) (o := .cells #[.int .i64 a0_0, .int .i64 a0_1] 25 (0, 0)) (by (with_reducible repeat (first | refine blk_drewN ?_ _ | refine blk_drew ?_ | refine blk_alloc ?_ _)); exact BK178.out)) : gb178 ≠ gb179)); have n6_ := Aside0.mk ((by rw [hg]; exact Nat.ne_of_gt (blk_lt (g := gb178) (o := .cells #[.int .i64 a0_0, .int .i64 a0_1] 25 (0, 0)) (by (with_reducible repeat (first | refine blk_drewN ?_ _ | refine blk_drew ?_ | refine blk_alloc ?_ _)); exact BK178.out)) : gb179 ≠ gb178)); clear BK178; clear HB; have BK178 := n0_; have HB := n1_; have BK179 := n2_; have GW179 := n3_; have GE179 := n4_; have NB178_179 := n5_; have NB179_178 := n6_; clear n0_ n1_ n2_ n3_ n4_ n5_ n6_; clear hb hbox hg) | (go_at_call 28; (with_reducible refine (plane_Square.calls a0_0 a0_1 a1_0 a1_1 t180 _ A6.out).mono ?_); rintro e wx750c1 ⟨rfl, hb⟩; have n0_ := Aside0.mk (blk_below (g := gb178) (o := .cells #[.int .i64 a0_0, .int .i64 a0_1] 25 (0, 0)) (by (with_reducible repeat (first | refine blk_drewN ?_ _ | refine blk_drew ?_ | refine blk_alloc ?_ _)); exact BK178.out) hb); have n1_ := Aside0.mk (blk_below (g := gb179) (o := .cells #[.int .i64 a1_0, .int .i64 a1_1] 25 (0, 0)) (by (with_reducible repeat (first | refine blk_drewN ?_ _ | refine blk_drew ?_ | refine blk_alloc ?_ _)); exact BK179.out) hb); have n2_ := Aside0.mk (below_step (by repeat (first | (with_reducible first | exact HB.out | apply below_alloc | apply pw_below_drewN | apply below_drew1 | refine below_set ?_ GE178.out | refine below_set ?_ GE179.out) | exact HB.out)) hb); clear BK178; clear BK179; clear HB; have BK178 := n0_; have BK179 := n1_; have HB := n2_; clear n0_ n1_ n2_; (try clear hb); (try clear hb2); (try clear hk); (try clear hi)))
  go_ret
  exact ⟨by first | rfl | (simp [errW_none, errW_some] <;> rfl) | (simp [*, errW_none, errW_some] <;> rfl), by repeat (first | (with_reducible first | exact HB.out | apply below_alloc | apply pw_below_drewN | apply below_drew1 | refine below_set ?_ GE178.out | refine below_set ?_ GE179.out) | exact HB.out)⟩

/-! ### bits_Mul64: function 110 -/
def bits_Mul64.f (a0 : Int) (a1 : Int) : Option (Int × Int) := some (IntKind.u64.wrap ((IntKind.u64.wrap ((IntKind.u64.wrap ((a0 / 4294967296) * (a1 / 4294967296))) + ((IntKind.u64.wrap ((IntKind.u64.wrap ((a0 / 4294967296) * (Go.bits .and .u64 a1 4294967295))) + ((IntKind.u64.wrap ((Go.bits .and .u64 a0 4294967295) * (Go.bits .and .u64 a1 4294967295))) / 4294967296))) / 4294967296))) + ((IntKind.u64.wrap ((Go.bits .and .u64 (IntKind.u64.wrap ((IntKind.u64.wrap ((a0 / 4294967296) * (Go.bits .and .u64 a1 4294967295))) + ((IntKind.u64.wrap ((Go.bits .and .u64 a0 4294967295) * (Go.bits .and .u64 a1 4294967295))) / 4294967296))) 4294967295) + (IntKind.u64.wrap ((Go.bits .and .u64 a0 4294967295) * (a1 / 4294967296))))) / 4294967296)), IntKind.u64.wrap (a0 * a1))
set_option maxHeartbeats 8000000 in
set_option maxRecDepth 100000 in
theorem bits_Mul64.calls (a0 : Int) (a1 : Int) (r1 : Int) (r2 : Int) (w : World) (h : bits_Mul64.f a0 a1 = some (r1, r2)) :
    Calls Try.prog 110 #[.int .u64 a0, .int .u64 a1] w fun e w' => e = .returned (.tuple #[.int .u64 r1, .int .u64 r2]) ∧ Below w.heap.size w w' := by
 have HB := Aside0.mk (Below.refl w.heap.size w)
 have H : (some (IntKind.u64.wrap ((IntKind.u64.wrap ((IntKind.u64.wrap ((a0 / 4294967296) * (a1 / 4294967296))) + ((IntKind.u64.wrap ((IntKind.u64.wrap ((a0 / 4294967296) * (Go.bits .and .u64 a1 4294967295))) + ((IntKind.u64.wrap ((Go.bits .and .u64 a0 4294967295) * (Go.bits .and .u64 a1 4294967295))) / 4294967296))) / 4294967296))) + ((IntKind.u64.wrap ((Go.bits .and .u64 (IntKind.u64.wrap ((IntKind.u64.wrap ((a0 / 4294967296) * (Go.bits .and .u64 a1 4294967295))) + ((IntKind.u64.wrap ((Go.bits .and .u64 a0 4294967295) * (Go.bits .and .u64 a1 4294967295))) / 4294967296))) 4294967295) + (IntKind.u64.wrap ((Go.bits .and .u64 a0 4294967295) * (a1 / 4294967296))))) / 4294967296)), IntKind.u64.wrap (a0 * a1))) = some (r1, r2) := h
 clear h
 simp only [Option.some.injEq, Prod.mk.injEq] at H
 obtain ⟨rfl, rfl⟩ := H
 go_enter Try.func110, Try.ntmps110
 go_wp2
 go_ret2
 exact ⟨by first | rfl | (simp [errW_none, errW_some] <;> rfl) | (simp [*, errW_none, errW_some] <;> rfl), by repeat (first | (with_reducible first | exact HB.out | apply below_alloc | apply pw_below_drewN | apply below_drew1) | exact HB.out)⟩

/-! ### polygon_product: function 88 -/
def polygon_product.f (a0 : Int) (a1 : Int) : Option (Int × Int) := (bits_Mul64.f a0 a1).bind fun bt181 => (some (bt181.1, bt181.2))
set_option maxHeartbeats 8000000 in
set_option maxRecDepth 100000 in
theorem polygon_product.calls (a0 : Int) (a1 : Int) (r1 : Int) (r2 : Int) (w : World) (h : polygon_product.f a0 a1 = some (r1, r2)) :
    Calls Try.prog 88 #[.int .u64 a0, .int .u64 a1] w fun e w' => e = .returned (.tuple #[.int .u64 r1, .int .u64 r2]) ∧ Below w.heap.size w w' := by
 have HB := Aside0.mk (Below.refl w.heap.size w)
 have H : ((bits_Mul64.f a0 a1).bind fun bt181 => (some (bt181.1, bt181.2))) = some (r1, r2) := h
 clear h
 replace H := Option.bind_eq_some_iff.mp H
 obtain ⟨⟨t181, t182⟩, A30, H⟩ := H
 replace H : (some (t181, t182)) = some (r1, r2) := H
 have A3 := Aside0.mk A30; clear A30
 simp only [Option.some.injEq, Prod.mk.injEq] at H
 obtain ⟨rfl, rfl⟩ := H
 go_enter Try.func88, Try.ntmps88
 go_wp2_with (first | ((with_reducible refine gate_callee (f := 110) rfl ?_); refine goesL_ (some 8) rfl rfl Try.func110 (by kernel_rfl) rfl #[.int .u64 a0, .int .u64 a1] rfl (by (try simp only [List.map_toArray, List.map_cons, List.map_nil]); first | done | rfl | (simp only [List.length_drop, List.length_take]; rfl)) ?_; (with_reducible refine (bits_Mul64.calls a0 a1 t181 t182 _ A3.out).mono ?_); rintro e w4 ⟨rfl, hb⟩; refine ⟨_, rfl, ?_⟩; have n0_ := Aside0.mk (below_step (by repeat (first | (with_reducible first | exact HB.out | apply below_alloc | apply pw_below_drewN | apply below_drew1) | exact HB.out)) hb); clear HB; have HB := n0_; clear n0_; (try clear hb); (try clear hb2); (try clear hk); (try clear hi)))
 go_ret2
 exact ⟨by first | rfl | (simp [errW_none, errW_some] <;> rfl) | (simp [*, errW_none, errW_some] <;> rfl), by repeat (first | (with_reducible first | exact HB.out | apply below_alloc | apply pw_below_drewN | apply below_drew1) | exact HB.out)⟩

/-! ### polygon_atMost: function 75 -/
def polygon_atMost.f (a0 : Int) (a1 : Int) (a2 : Int) : Option (Bool) := if a0 < 0 then ((polygon_product.f (IntKind.u64.wrap (wrap64 (-a0))) (IntKind.u64.wrap (wrap64 (-a0)))).bind fun bt183 => ((polygon_product.f (IntKind.u64.wrap (wrap64 (a1 * a1))) (IntKind.u64.wrap (a2))).bind fun bt185 => (if bt183.1 < bt185.1 then (some true) else (if bt183.1 = bt185.1 then (some (decide (bt183.2 ≤ bt185.2))) else (some false))))) else ((polygon_product.f (IntKind.u64.wrap (a0)) (IntKind.u64.wrap (a0))).bind fun bt187 => ((polygon_product.f (IntKind.u64.wrap (wrap64 (a1 * a1))) (IntKind.u64.wrap (a2))).bind fun bt189 => (if bt187.1 < bt189.1 then (some true) else (if bt187.1 = bt189.1 then (some (decide (bt187.2 ≤ bt189.2))) else (some false)))))
set_option maxHeartbeats 8000000 in
set_option maxRecDepth 100000 in
theorem polygon_atMost.calls (a0 : Int) (a1 : Int) (a2 : Int) (r : Bool) (w : World) (h : polygon_atMost.f a0 a1 a2 = some r) :
    Calls Try.prog 75 #[.int .i64 a0, .int .i64 a1, .int .i64 a2] w fun e w' => e = .returned (.bool r) ∧ Below w.heap.size w w' := by
 have HB := Aside0.mk (Below.refl w.heap.size w)
 have H : (if a0 < 0 then ((polygon_product.f (IntKind.u64.wrap (wrap64 (-a0))) (IntKind.u64.wrap (wrap64 (-a0)))).bind fun bt183 => ((polygon_product.f (IntKind.u64.wrap (wrap64 (a1 * a1))) (IntKind.u64.wrap (a2))).bind fun bt185 => (if bt183.1 < bt185.1 then (some true) else (if bt183.1 = bt185.1 then (some (decide (bt183.2 ≤ bt185.2))) else (some false))))) else ((polygon_product.f (IntKind.u64.wrap (a0)) (IntKind.u64.wrap (a0))).bind fun bt187 => ((polygon_product.f (IntKind.u64.wrap (wrap64 (a1 * a1))) (IntKind.u64.wrap (a2))).bind fun bt189 => (if bt187.1 < bt189.1 then (some true) else (if bt187.1 = bt189.1 then (some (decide (bt187.2 ≤ bt189.2))) else (some false)))))) = some r := h
 clear h
 refine Or.elim (Classical.em (a0 < 0)) (fun c4 => ?p2_) (fun c4 => ?n2_)
 case' p2_ =>
  rw [if_pos c4] at H
  have c4b0 : decide (a0 < 0) = true := decide_eq_true c4
  clear c4
  replace H := Option.bind_eq_some_iff.mp H
  obtain ⟨⟨t183, t184⟩, A50, H⟩ := H
  replace H : ((polygon_product.f (IntKind.u64.wrap (wrap64 (a1 * a1))) (IntKind.u64.wrap (a2))).bind fun bt185 => (if t183 < bt185.1 then (some true) else (if t183 = bt185.1 then (some (decide (t184 ≤ bt185.2))) else (some false)))) = some r := H
  have A5 := Aside0.mk A50; clear A50
  replace H := Option.bind_eq_some_iff.mp H
  obtain ⟨⟨t185, t186⟩, A60, H⟩ := H
  replace H : (if t183 < t185 then (some true) else (if t183 = t185 then (some (decide (t184 ≤ t186))) else (some false))) = some r := H
  have A6 := Aside0.mk A60; clear A60
  refine Or.elim (Classical.em (t183 < t185)) (fun c7 => ?p3_) (fun c7 => ?n3_)
  case' p3_ =>
   rw [if_pos c7] at H
   have c7b0 : decide (t183 < t185) = true := decide_eq_true c7
   clear c7
  case' n3_ =>
   rw [if_neg c7] at H
   have c7b0 : decide (t183 < t185) = false := decide_eq_false c7
   clear c7
   refine Or.elim (Classical.em (t183 = t185)) (fun c10 => ?p4_) (fun c10 => ?n4_)
   case' p4_ =>
    rw [if_pos c10] at H
    have c10b0 : (t183 == t185) = true := beq_iff_eq.mpr c10
    have c10b1 : (t183 != t185) = false := bne_eq_false_iff_eq.mpr c10
    clear c10
   case' n4_ =>
    rw [if_neg c10] at H
    have c10b0 : (t183 == t185) = false := beq_eq_false_iff_ne.mpr c10
    have c10b1 : (t183 != t185) = true := bne_iff_ne.mpr c10
 case' n2_ =>
  rw [if_neg c4] at H
  have c4b0 : decide (a0 < 0) = false := decide_eq_false c4
  clear c4
  replace H := Option.bind_eq_some_iff.mp H
  obtain ⟨⟨t187, t188⟩, A150, H⟩ := H
  replace H : ((polygon_product.f (IntKind.u64.wrap (wrap64 (a1 * a1))) (IntKind.u64.wrap (a2))).bind fun bt189 => (if t187 < bt189.1 then (some true) else (if t187 = bt189.1 then (some (decide (t188 ≤ bt189.2))) else (some false)))) = some r := H
  have A15 := Aside0.mk A150; clear A150
  replace H := Option.bind_eq_some_iff.mp H
  obtain ⟨⟨t189, t190⟩, A160, H⟩ := H
  replace H : (if t187 < t189 then (some true) else (if t187 = t189 then (some (decide (t188 ≤ t190))) else (some false))) = some r := H
  have A16 := Aside0.mk A160; clear A160
  refine Or.elim (Classical.em (t187 < t189)) (fun c17 => ?p5_) (fun c17 => ?n5_)
  case' p5_ =>
   rw [if_pos c17] at H
   have c17b0 : decide (t187 < t189) = true := decide_eq_true c17
   clear c17
  case' n5_ =>
   rw [if_neg c17] at H
   have c17b0 : decide (t187 < t189) = false := decide_eq_false c17
   clear c17
   refine Or.elim (Classical.em (t187 = t189)) (fun c20 => ?p6_) (fun c20 => ?n6_)
   case' p6_ =>
    rw [if_pos c20] at H
    have c20b0 : (t187 == t189) = true := beq_iff_eq.mpr c20
    have c20b1 : (t187 != t189) = false := bne_eq_false_iff_eq.mpr c20
    clear c20
   case' n6_ =>
    rw [if_neg c20] at H
    have c20b0 : (t187 == t189) = false := beq_eq_false_iff_ne.mpr c20
    have c20b1 : (t187 != t189) = true := bne_iff_ne.mpr c20
 all_goals
  obtain rfl := Option.some.inj H
  go_enter Try.func75, Try.ntmps75
  go_wp2_with (first | ((with_reducible refine gate_callee (f := 88) rfl ?_); refine goesL_ (some 20) rfl rfl Try.func88 (by kernel_rfl) rfl #[.int .u64 (IntKind.u64.wrap (wrap64 (-a0))), .int .u64 (IntKind.u64.wrap (wrap64 (-a0)))] rfl (by (try simp only [List.map_toArray, List.map_cons, List.map_nil]); first | done | rfl | (simp only [List.length_drop, List.length_take]; rfl)) ?_; (with_reducible refine (polygon_product.calls (IntKind.u64.wrap (wrap64 (-a0))) (IntKind.u64.wrap (wrap64 (-a0))) t183 t184 _ A5.out).mono ?_); rintro e wx133c1 ⟨rfl, hb⟩; refine ⟨_, rfl, ?_⟩; have n0_ := Aside0.mk (below_step (by repeat (first | (with_reducible first | exact HB.out | apply below_alloc | apply pw_below_drewN | apply below_drew1) | exact HB.out)) hb); clear HB; have HB := n0_; clear n0_; (try clear hb); (try clear hb2); (try clear hk); (try clear hi)) | ((with_reducible refine gate_callee (f := 88) rfl ?_); refine goesL_ (some 30) rfl rfl Try.func88 (by kernel_rfl) rfl #[.int .u64 (IntKind.u64.wrap (wrap64 (a1 * a1))), .int .u64 (IntKind.u64.wrap (a2))] rfl (by (try simp only [List.map_toArray, List.map_cons, List.map_nil]); first | done | rfl | (simp only [List.length_drop, List.length_take]; rfl)) ?_; (with_reducible refine (polygon_product.calls (IntKind.u64.wrap (wrap64 (a1 * a1))) (IntKind.u64.wrap (a2)) t185 t186 _ A6.out).mono ?_); rintro e wx88f01 ⟨rfl, hb⟩; refine ⟨_, rfl, ?_⟩; have n0_ := Aside0.mk (below_step (by repeat (first | (with_reducible first | exact HB.out | apply below_alloc | apply pw_below_drewN | apply below_drew1) | exact HB.out)) hb); clear HB; have HB := n0_; clear n0_; (try clear hb); (try clear hb2); (try clear hk); (try clear hi)) | ((with_reducible refine gate_callee (f := 88) rfl ?_); refine goesL_ (some 20) rfl rfl Try.func88 (by kernel_rfl) rfl #[.int .u64 (IntKind.u64.wrap (a0)), .int .u64 (IntKind.u64.wrap (a0))] rfl (by (try simp only [List.map_toArray, List.map_cons, List.map_nil]); first | done | rfl | (simp only [List.length_drop, List.length_take]; rfl)) ?_; (with_reducible refine (polygon_product.calls (IntKind.u64.wrap (a0)) (IntKind.u64.wrap (a0)) t187 t188 _ A15.out).mono ?_); rintro e wx414f1 ⟨rfl, hb⟩; refine ⟨_, rfl, ?_⟩; have n0_ := Aside0.mk (below_step (by repeat (first | (with_reducible first | exact HB.out | apply below_alloc | apply pw_below_drewN | apply below_drew1) | exact HB.out)) hb); clear HB; have HB := n0_; clear n0_; (try clear hb); (try clear hb2); (try clear hk); (try clear hi)) | ((with_reducible refine gate_callee (f := 88) rfl ?_); refine goesL_ (some 30) rfl rfl Try.func88 (by kernel_rfl) rfl #[.int .u64 (IntKind.u64.wrap (wrap64 (a1 * a1))), .int .u64 (IntKind.u64.wrap (a2))] rfl (by (try simp only [List.map_toArray, List.map_cons, List.map_nil]); first | done | rfl | (simp only [List.length_drop, List.length_take]; rfl)) ?_; (with_reducible refine (polygon_product.calls (IntKind.u64.wrap (wrap64 (a1 * a1))) (IntKind.u64.wrap (a2)) t189 t190 _ A16.out).mono ?_); rintro e wx7c411 ⟨rfl, hb⟩; refine ⟨_, rfl, ?_⟩; have n0_ := Aside0.mk (below_step (by repeat (first | (with_reducible first | exact HB.out | apply below_alloc | apply pw_below_drewN | apply below_drew1) | exact HB.out)) hb); clear HB; have HB := n0_; clear n0_; (try clear hb); (try clear hb2); (try clear hk); (try clear hi)))
  go_ret
  exact ⟨by first | rfl | (simp [errW_none, errW_some] <;> rfl) | (simp [*, errW_none, errW_some] <;> rfl), by repeat (first | (with_reducible first | exact HB.out | apply below_alloc | apply pw_below_drewN | apply below_drew1) | exact HB.out)⟩

end Go.Proofs.Yteaddpieonkboaa.PPolygonTurned
