/- Made by a program of this session (wip/tools/myprint.py, over the kit's printer): that the Go functions answer as the Lean functions printed beside them. -/
import Derived.Test.YteaddpieonkboaaPVolumeHasx0
import Derived.Test.YteaddpieonkboaaPVolumeHasx2
import Derived.Test.YteaddpieonkboaaPVolumeHasx4
namespace Go.Proofs.Yteaddpieonkboaa.PVolumeHas
open Go.RowKit Go.Proofs.YteaddpieonkboaaW.PrintWords Go.Proofs.YteaddpieonkboaaW.PrintLast Go.Proofs.YteaddpieonkboaaW.PrintMore
attribute [local go_sem] max2_int min2_int max_two min_two max_three min_three max_four min_four   -- for this text's walks alone
set_option linter.unusedVariables false
set_option linter.unusedSimpArgs false

/-! ### polygon_locate: function 46 -/
mutual
def polygon_locate.l0 : Nat → List (S25) → Int → List (S25) → Int → Int → Int → Int → Option (Int)
  | 0, _, _, _, _, _, _, _ => none
  | k + 1, x0, x5, x10, x11, x12, x166000, x166001 => if x12 < x11 then (if 0 ≤ x12 then (if x12 < (x10.length : Int) then (if (x0.length : Int) = 0 then (none) else (if 0 ≤ (Int.tmod (wrap64 ((wrap64 (x12 + (x0.length : Int))) - 1)) (x0.length : Int)) then (if (Int.tmod (wrap64 ((wrap64 (x12 + (x0.length : Int))) - 1)) (x0.length : Int)) < (x0.length : Int) then ((plane_Turn.f ((rd_T25 x0 (Int.tmod (wrap64 ((wrap64 (x12 + (x0.length : Int))) - 1)) (x0.length : Int))).f0) ((rd_T25 x0 (Int.tmod (wrap64 ((wrap64 (x12 + (x0.length : Int))) - 1)) (x0.length : Int))).f1) ((rd_T25 x10 x12).f0) ((rd_T25 x10 x12).f1) x166000 x166001).bind fun t170 => (if t170 = 0 then ((polygon_on.f ((rd_T25 x0 (Int.tmod (wrap64 ((wrap64 (x12 + (x0.length : Int))) - 1)) (x0.length : Int))).f0) ((rd_T25 x0 (Int.tmod (wrap64 ((wrap64 (x12 + (x0.length : Int))) - 1)) (x0.length : Int))).f1) ((rd_T25 x10 x12).f0) ((rd_T25 x10 x12).f1) x166000 x166001).bind fun t171 => (polygon_locate.j1 k x0 x5 t170 x10 x11 x12 t171 x166000 x166001 ((rd_T25 x10 x12).f0) ((rd_T25 x10 x12).f1) ((rd_T25 x0 (Int.tmod (wrap64 ((wrap64 (x12 + (x0.length : Int))) - 1)) (x0.length : Int))).f0) ((rd_T25 x0 (Int.tmod (wrap64 ((wrap64 (x12 + (x0.length : Int))) - 1)) (x0.length : Int))).f1))) else (polygon_locate.j1 k x0 x5 t170 x10 x11 x12 false x166000 x166001 ((rd_T25 x10 x12).f0) ((rd_T25 x10 x12).f1) ((rd_T25 x0 (Int.tmod (wrap64 ((wrap64 (x12 + (x0.length : Int))) - 1)) (x0.length : Int))).f0) ((rd_T25 x0 (Int.tmod (wrap64 ((wrap64 (x12 + (x0.length : Int))) - 1)) (x0.length : Int))).f1)))) else (none)) else (none))) else (none)) else (none)) else (some x5)
def polygon_locate.j1 : Nat → List (S25) → Int → Int → List (S25) → Int → Int → Bool → Int → Int → Int → Int → Int → Int → Option (Int)
  | 0, _, _, _, _, _, _, _, _, _, _, _, _, _ => none
  | k + 1, x0, x5, x9, x10, x11, x12, x39, x166000, x166001, x168000, x168001, x170000, x170001 => if x39 = true then (some 0) else (if x170001 ≤ x166001 then (if x166001 < x168001 then (if x9 > 0 then (polygon_locate.l0 k x0 (wrap64 (-x5)) x10 x11 (wrap64 (x12 + 1)) x166000 x166001) else (if x168001 ≤ x166001 then (if x166001 < x170001 then (if x9 < 0 then (polygon_locate.l0 k x0 (wrap64 (-x5)) x10 x11 (wrap64 (x12 + 1)) x166000 x166001) else (polygon_locate.l0 k x0 x5 x10 x11 (wrap64 (x12 + 1)) x166000 x166001)) else (polygon_locate.l0 k x0 x5 x10 x11 (wrap64 (x12 + 1)) x166000 x166001)) else (polygon_locate.l0 k x0 x5 x10 x11 (wrap64 (x12 + 1)) x166000 x166001))) else (if x168001 ≤ x166001 then (if x166001 < x170001 then (if x9 < 0 then (polygon_locate.l0 k x0 (wrap64 (-x5)) x10 x11 (wrap64 (x12 + 1)) x166000 x166001) else (polygon_locate.l0 k x0 x5 x10 x11 (wrap64 (x12 + 1)) x166000 x166001)) else (polygon_locate.l0 k x0 x5 x10 x11 (wrap64 (x12 + 1)) x166000 x166001)) else (polygon_locate.l0 k x0 x5 x10 x11 (wrap64 (x12 + 1)) x166000 x166001))) else (if x168001 ≤ x166001 then (if x166001 < x170001 then (if x9 < 0 then (polygon_locate.l0 k x0 (wrap64 (-x5)) x10 x11 (wrap64 (x12 + 1)) x166000 x166001) else (polygon_locate.l0 k x0 x5 x10 x11 (wrap64 (x12 + 1)) x166000 x166001)) else (polygon_locate.l0 k x0 x5 x10 x11 (wrap64 (x12 + 1)) x166000 x166001)) else (polygon_locate.l0 k x0 x5 x10 x11 (wrap64 (x12 + 1)) x166000 x166001)))
end
def polygon_locate.f (k : Nat) (l0 : List (S25)) (a1_0 : Int) (a1_1 : Int) : Option (Int) := polygon_locate.l0 k l0 (-1) l0 (l0.length : Int) 0 a1_0 a1_1
theorem polygon_locate.mono_l : ∀ k, (∀ y0 y1 y2 y3 y4 y5 y6, LeO (polygon_locate.l0 k y0 y1 y2 y3 y4 y5 y6) (polygon_locate.l0 (k + 1) y0 y1 y2 y3 y4 y5 y6)) ∧ (∀ y0 y1 y2 y3 y4 y5 y6 y7 y8 y9 y10 y11 y12, LeO (polygon_locate.j1 k y0 y1 y2 y3 y4 y5 y6 y7 y8 y9 y10 y11 y12) (polygon_locate.j1 (k + 1) y0 y1 y2 y3 y4 y5 y6 y7 y8 y9 y10 y11 y12))
  | 0 => ⟨fun _ _ _ _ _ _ _ r h => by simp [polygon_locate.l0] at h, fun _ _ _ _ _ _ _ _ _ _ _ _ _ r h => by simp [polygon_locate.j1] at h⟩
  | k + 1 => by
    obtain ⟨ih0, ih1⟩ := polygon_locate.mono_l k
    refine ⟨?_, ?_⟩
    · intro y0 y1 y2 y3 y4 y5 y6
      unfold polygon_locate.l0
      repeat' first
      | (with_reducible exact ih0 _ _ _ _ _ _ _)
      | (with_reducible exact ih1 _ _ _ _ _ _ _ _ _ _ _ _ _)
      | (with_reducible exact LeO.refl _)
      | (with_reducible exact LeO.none _)
      | (with_reducible refine LeO.ite ?_ ?_)
      | (with_reducible refine LeO.bind ?_ (fun _ => ?_))
      | exact ih0 _ _ _ _ _ _ _
      | exact ih1 _ _ _ _ _ _ _ _ _ _ _ _ _
      | exact LeO.none _
      | refine LeO.ite ?_ ?_
      | refine LeO.bind ?_ (fun _ => ?_)
    · intro y0 y1 y2 y3 y4 y5 y6 y7 y8 y9 y10 y11 y12
      unfold polygon_locate.j1
      repeat' first
      | (with_reducible exact ih0 _ _ _ _ _ _ _)
      | (with_reducible exact ih1 _ _ _ _ _ _ _ _ _ _ _ _ _)
      | (with_reducible exact LeO.refl _)
      | (with_reducible exact LeO.none _)
      | (with_reducible refine LeO.ite ?_ ?_)
      | (with_reducible refine LeO.bind ?_ (fun _ => ?_))
      | exact ih0 _ _ _ _ _ _ _
      | exact ih1 _ _ _ _ _ _ _ _ _ _ _ _ _
      | exact LeO.none _
      | refine LeO.ite ?_ ?_
      | refine LeO.bind ?_ (fun _ => ?_)
theorem polygon_locate.mono : ∀ a0 a1 a2 k, LeO (polygon_locate.f k a0 a1 a2) (polygon_locate.f (k + 1) a0 a1 a2) := by
  intro a0 a1 a2 k
  obtain ⟨ih0, ih1⟩ := polygon_locate.mono_l k
  unfold polygon_locate.f
  repeat' first
      | (with_reducible exact ih0 _ _ _ _ _ _ _)
      | (with_reducible exact ih1 _ _ _ _ _ _ _ _ _ _ _ _ _)
      | (with_reducible exact LeO.refl _)
      | (with_reducible exact LeO.none _)
      | (with_reducible refine LeO.ite ?_ ?_)
      | (with_reducible refine LeO.bind ?_ (fun _ => ?_))
      | exact ih0 _ _ _ _ _ _ _
      | exact ih1 _ _ _ _ _ _ _ _ _ _ _ _ _
      | exact LeO.none _
      | refine LeO.ite ?_ ?_
      | refine LeO.bind ?_ (fun _ => ?_)
set_option maxHeartbeats 8000000 in
set_option maxRecDepth 100000 in
theorem polygon_locate.calls (k : Nat) (A0 : Option Addr) (c0 : Nat) (l0 : List (S25)) (a1_0 : Int) (a1_1 : Int) (r : Int) (w : World) (hr0 : Kd.C k25 w A0 l0.length l0) (hc0 : l0.length ≤ c0) (h : polygon_locate.f k l0 a1_0 a1_1 = some r) :
    Calls Try.prog 46 #[.slice A0 l0.length c0, .agg #[.int .i64 a1_0, .int .i64 a1_1]] w fun e w' => e = .returned (.int .i64 r) ∧ Below w.heap.size w w' := by
 have hu25 := Try.underlying25
 have HR0 := Aside0.mk hr0
 have HC0 := Aside0.mk hc0
 clear hr0 hc0
 have HB := Aside0.mk (Below.refl w.heap.size w)
 have H : (polygon_locate.l0 k l0 (-1) l0 (l0.length : Int) 0 a1_0 a1_1) = some r := h
 clear h
 have H' := Aside0.mk H
 clear H
 go_enter Try.func46, Try.ntmps46
 go_wp2_with (first | ((with_reducible refine gate_dst (N := 3) rfl ?_); refine box_event ?hg (N := 3) ?hd (cs := #[.int .i64 a1_0, .int .i64 a1_1]) (t := 25) ?hr ?_; (case hd => rfl); (case hg => rfl); (case hr => first | (go_simp; done) | (go_simp; rfl)); intro gb165 hg w3 hbox hb; have n0_ := Aside0.mk (below_step (by repeat (first | (with_reducible first | exact HB.out | apply below_alloc | apply pw_below_drewN | apply below_drew1) | exact HB.out)) hb); have n1_ := Aside0.mk (hbox); have n2_ := Aside0.mk ((by rw [hg]; exact (below_size (by repeat (first | (with_reducible first | exact HB.out | apply below_alloc | apply pw_below_drewN | apply below_drew1) | exact HB.out))) : w.heap.size ≤ gb165)); have n3_ := Aside0.mk ((by rw [hg]; exact (below_size (by repeat (first | (with_reducible first | exact HB.out | apply below_alloc | apply pw_below_drewN | apply below_drew1) | exact HB.out))) : w.heap.size ≤ gb165)); clear HB; have HB := n0_; have BK165 := n1_; have GW165 := n2_; have GE165 := n3_; clear n0_ n1_ n2_ n3_; clear hb hbox hg))
 go_loopg [5, 12] k (fun kq v5 v12 w' => ∃ (x5_1 : Int) (x12_1 : Int), v5 = .int .i64 x5_1 ∧ v12 = .int .i64 x12_1 ∧ Aside0 (polygon_locate.l0 kq l0 x5_1 l0 (l0.length : Int) x12_1 a1_0 a1_1 = some r) ∧ Aside0 (kq ≤ k) ∧ Aside0 (w'.heap[gb165]? = some (.cells #[.int .i64 a1_0, .int .i64 a1_1] 25 (0, 0))) ∧ Aside0 (Below w.heap.size w w'))
 case atStart => exact ⟨((-1)), (0), (by first | rfl | (simp; done) | (simp [*]; done)), (by first | rfl | (simp; done) | (simp [*]; done)), H', ⟨Nat.le_refl _⟩, ⟨by (with_reducible repeat (first | refine blk_drewN ?_ _ | refine blk_drew ?_ | refine blk_alloc ?_ _)); exact BK165.out⟩, ⟨by repeat (first | (with_reducible first | exact HB.out | apply below_alloc | apply pw_below_drewN | apply below_drew1 | refine below_set ?_ GE165.out) | exact HB.out)⟩⟩
 case round =>
  clear H'
  (try clear p2)
  obtain ⟨x5_1, x12_1, rfl, rfl, HA, HK1, BK165, HB⟩ := hrel
  cases gk with
  | zero => exact absurd HA.out (by simp [polygon_locate.l0])
  | succ k1 =>
   have H := HA.out
   clear HA
   simp only [polygon_locate.l0] at H
   by_cases c4 : x12_1 < (l0.length : Int)
   · rw [if_pos c4] at H
     have c4b0 : decide (x12_1 < (l0.length : Int)) = true := decide_eq_true c4
     clear c4
     by_cases c5 : 0 ≤ x12_1
     · rw [if_pos c5] at H
       have c5b0 : decide (0 ≤ x12_1) = true := decide_eq_true c5
       clear c5
       by_cases c6 : x12_1 < (l0.length : Int)
       · rw [if_pos c6] at H
         have c6b0 : decide (x12_1 < (l0.length : Int)) = true := decide_eq_true c6
         clear c6
         by_cases c7 : (l0.length : Int) = 0
         · rw [if_pos c7] at H
           exact absurd H (by simp)
         · rw [if_neg c7] at H
           have c7b0 : ((l0.length : Int) == 0) = false := beq_eq_false_iff_ne.mpr c7
           have c7b1 : ((l0.length : Int) != 0) = true := bne_iff_ne.mpr c7
           have c7b2 : ¬ (l0 = []) := fun h_ => c7 (by rw [h_]; rfl)
           obtain ⟨ji8, hji8⟩ : ∃ j_ : Int, (Int.tmod (wrap64 ((wrap64 (x12_1 + (l0.length : Int))) - 1)) (l0.length : Int)) = j_ := ⟨_, rfl⟩
           replace H : (if 0 ≤ (ji8) then (if (ji8) < (l0.length : Int) then ((plane_Turn.f ((rd_T25 l0 (ji8)).f0) ((rd_T25 l0 (ji8)).f1) ((rd_T25 l0 x12_1).f0) ((rd_T25 l0 x12_1).f1) a1_0 a1_1).bind fun t170 => (if t170 = 0 then ((polygon_on.f ((rd_T25 l0 (ji8)).f0) ((rd_T25 l0 (ji8)).f1) ((rd_T25 l0 x12_1).f0) ((rd_T25 l0 x12_1).f1) a1_0 a1_1).bind fun t171 => (polygon_locate.j1 k1 l0 x5_1 t170 l0 (l0.length : Int) x12_1 t171 a1_0 a1_1 ((rd_T25 l0 x12_1).f0) ((rd_T25 l0 x12_1).f1) ((rd_T25 l0 (ji8)).f0) ((rd_T25 l0 (ji8)).f1))) else (polygon_locate.j1 k1 l0 x5_1 t170 l0 (l0.length : Int) x12_1 false a1_0 a1_1 ((rd_T25 l0 x12_1).f0) ((rd_T25 l0 x12_1).f1) ((rd_T25 l0 (ji8)).f0) ((rd_T25 l0 (ji8)).f1)))) else (none)) else (none)) = some r := by first | (rw [hji8] at H; exact H) | (simp only [hji8] at H ⊢; exact H)
           by_cases c9 : 0 ≤ (ji8)
           · rw [if_pos c9] at H
             have c9b0 : decide (0 ≤ (ji8)) = true := decide_eq_true c9
             clear c9
             by_cases c10 : (ji8) < (l0.length : Int)
             · rw [if_pos c10] at H
               have c10b0 : decide ((ji8) < (l0.length : Int)) = true := decide_eq_true c10
               clear c10
               replace H := Option.bind_eq_some_iff.mp H
               obtain ⟨t170, A110, H⟩ := H
               replace H : (if t170 = 0 then ((polygon_on.f ((rd_T25 l0 (ji8)).f0) ((rd_T25 l0 (ji8)).f1) ((rd_T25 l0 x12_1).f0) ((rd_T25 l0 x12_1).f1) a1_0 a1_1).bind fun t171 => (polygon_locate.j1 k1 l0 x5_1 t170 l0 (l0.length : Int) x12_1 t171 a1_0 a1_1 ((rd_T25 l0 x12_1).f0) ((rd_T25 l0 x12_1).f1) ((rd_T25 l0 (ji8)).f0) ((rd_T25 l0 (ji8)).f1))) else (polygon_locate.j1 k1 l0 x5_1 t170 l0 (l0.length : Int) x12_1 false a1_0 a1_1 ((rd_T25 l0 x12_1).f0) ((rd_T25 l0 x12_1).f1) ((rd_T25 l0 (ji8)).f0) ((rd_T25 l0 (ji8)).f1))) = some r := H
               have A11 := Aside0.mk A110
               clear A110
               have HC12 := Aside0.mk H
               clear H
               have p166 : 0 ≤ (x12_1 : Int) := of_decide_eq_true (by first | (with_reducible assumption) | assumption)
               have q166 : x12_1 < (l0.length : Int) := of_decide_eq_true (by first | (with_reducible assumption) | assumption)
               obtain ⟨ad166, e166, hx166_0, hx166_1⟩ := at_T25 HR0.out x12_1 p166 q166
               cases e166
               replace hx166_0 := (HB.out.cell (World.block_lt_of_cell? w _ hx166_0)).trans hx166_0
               replace hx166_1 := (HB.out.cell (World.block_lt_of_cell? w _ hx166_1)).trans hx166_1
               replace p166 := eq_true p166
               replace q166 := eq_true q166
               go_upto_region 7 with (first | ((with_reducible refine gate_dst (N := 7) rfl ?_); refine box_event ?hg (N := 7) ?hd (cs := #[.int .i64 0, .int .i64 0]) (t := 25) ?hr ?_; (case hd => rfl); (case hg => rfl); (case hr => first | (go_simp; done) | (go_simp; rfl)); intro gb167 hg wxbd6b1 hbox hb; have n0_ := Aside0.mk (blk_below (g := gb165) (o := .cells #[.int .i64 a1_0, .int .i64 a1_1] 25 (0, 0)) (by (with_reducible repeat (first | refine blk_drewN ?_ _ | refine blk_drew ?_ | refine blk_alloc ?_ _)); exact BK165.out) hb); have n1_ := Aside0.mk (below_step (by repeat (first | (with_reducible first | exact HB.out | apply below_alloc | apply pw_below_drewN | apply below_drew1 | refine below_set ?_ GE165.out) | exact HB.out)) hb); have n2_ := Aside0.mk (hbox); have n3_ := Aside0.mk ((by rw [hg]; exact (below_size (by repeat (first | (with_reducible first | exact HB.out | apply below_alloc | apply pw_below_drewN | apply below_drew1 | refine below_set ?_ GE165.out) | exact HB.out))) : w.heap.size ≤ gb167)); have n4_ := Aside0.mk ((by rw [hg]; exact (below_size (by repeat (first | (with_reducible first | exact HB.out | apply below_alloc | apply pw_below_drewN | apply below_drew1 | refine below_set ?_ GE165.out) | exact HB.out))) : w.heap.size ≤ gb167)); have n5_ := Aside0.mk ((by rw [hg]; exact Nat.ne_of_lt (blk_lt (g := gb165) (o := .cells #[.int .i64 a1_0, .int .i64 a1_1] 25 (0, 0)) (by (with_reducible repeat (first | refine blk_drewN ?_ _ | refine blk_drew ?_ | refine blk_alloc ?_ _)); exact BK165.out)) : gb165 ≠ gb167)); have n6_ := Aside0.mk ((by rw [hg]; exact Nat.ne_of_gt (blk_lt (g := gb165) (o := .cells #[.int .i64 a1_0, .int .i64 a1_1] 25 (0, 0)) (by (with_reducible repeat (first | refine blk_drewN ?_ _ | refine blk_drew ?_ | refine blk_alloc ?_ _)); exact BK165.out)) : gb167 ≠ gb165)); clear BK165; clear HB; have BK165 := n0_; have HB := n1_; have BK167 := n2_; have GW167 := n3_; have GE167 := n4_; have NB165_167 := n5_; have NB167_165 := n6_; clear n0_ n1_ n2_ n3_ n4_ n5_ n6_; clear hb hbox hg; have hnbxbd6b1 := NB167_165.out; have hncxbd6b1 := NB165_167.out; have hczxbd6b1 : wxbd6b1.cell? ⟨gb167, 0, none⟩ = some (.int .i64 0) := (blk_cell BK167.out 0).trans rfl; have hczxbd6b2 : wxbd6b1.cell? ⟨gb167, 1, none⟩ = some (.int .i64 0) := (blk_cell BK167.out 1).trans rfl; have hfzxbd6b1 := blk_frozen BK167.out 0; have hfzxbd6b2 := blk_frozen BK167.out 1; have p168 : 0 ≤ ((ji8) : Int) := of_decide_eq_true (by first | (with_reducible assumption) | assumption); have q168 : (ji8) < (l0.length : Int) := of_decide_eq_true (by first | (with_reducible assumption) | assumption); obtain ⟨ad168, e168, hx168_0, hx168_1⟩ := at_T25 HR0.out (ji8) p168 q168; obtain rfl : ad166 = ad168 := (by injection e168); have hn168_0 : ad166.block ≠ gb167 := Nat.ne_of_lt (Nat.lt_of_lt_of_le (by have := World.block_lt_of_cell? _ _ hx168_0; first | rwa [add_block] at this | exact this) GW167.out); have hn168_1 : ad166.block ≠ gb167 := Nat.ne_of_lt (Nat.lt_of_lt_of_le (by have := World.block_lt_of_cell? _ _ hx168_0; first | rwa [add_block] at this | exact this) GW167.out); replace hx168_0 := (HB.out.cell (World.block_lt_of_cell? w _ hx168_0)).trans hx168_0; replace hx168_1 := (HB.out.cell (World.block_lt_of_cell? w _ hx168_1)).trans hx168_1; replace hx168_0 := (cell_far (p := ⟨gb167, 0, none⟩) (by first | (rw [add_block]; exact hn168_0) | (show (Addr.add _ _).block ≠ _; rw [add_block]; exact hn168_0) | exact hn168_0) (.int .i64 ((rd_T25 l0 x12_1).f0))).trans hx168_0; replace hx168_1 := (cell_far (p := ⟨gb167, 0, none⟩) (by first | (rw [add_block]; exact hn168_0) | (show (Addr.add _ _).block ≠ _; rw [add_block]; exact hn168_0) | exact hn168_0) (.int .i64 ((rd_T25 l0 x12_1).f0))).trans hx168_1; replace hx168_0 := (cell_far (p := ⟨gb167, 1, none⟩) (by first | (rw [add_block]; exact hn168_1) | (show (Addr.add _ _).block ≠ _; rw [add_block]; exact hn168_1) | exact hn168_1) (.int .i64 ((rd_T25 l0 x12_1).f1))).trans hx168_0; replace hx168_1 := (cell_far (p := ⟨gb167, 1, none⟩) (by first | (rw [add_block]; exact hn168_1) | (show (Addr.add _ _).block ≠ _; rw [add_block]; exact hn168_1) | exact hn168_1) (.int .i64 ((rd_T25 l0 x12_1).f1))).trans hx168_1; clear hn168_0; clear hn168_1; replace p168 := eq_true p168; replace q168 := eq_true q168) | ((with_reducible refine gate_dst (N := 8) rfl ?_); refine box_event ?hg (N := 8) ?hd (cs := #[.int .i64 0, .int .i64 0]) (t := 25) ?hr ?_; (case hd => rfl); (case hg => rfl); (case hr => first | (go_simp; done) | (go_simp; rfl)); intro gb169 hg wx12ef1 hbox hb; have n0_ := Aside0.mk (blk_below (g := gb165) (o := .cells #[.int .i64 a1_0, .int .i64 a1_1] 25 (0, 0)) (by (with_reducible repeat (first | refine blk_drewN ?_ _ | refine blk_drew ?_ | refine blk_alloc ?_ _)); refine blk_far ?_ NB165_167.out _; (with_reducible repeat (first | refine blk_drewN ?_ _ | refine blk_drew ?_ | refine blk_alloc ?_ _)); refine blk_far ?_ NB165_167.out _; (with_reducible repeat (first | refine blk_drewN ?_ _ | refine blk_drew ?_ | refine blk_alloc ?_ _)); exact BK165.out) hb); have n1_ := Aside0.mk (blk_below (g := gb167) (o := .cells #[.int .i64 ((rd_T25 l0 x12_1).f0), .int .i64 ((rd_T25 l0 x12_1).f1)] 25 (0, 0)) (by (with_reducible repeat (first | refine blk_drewN ?_ _ | refine blk_drew ?_ | refine blk_alloc ?_ _)); refine blk_put (cs := #[.int .i64 ((rd_T25 l0 x12_1).f0), .int .i64 0]) ?_ 1 _ rfl; (with_reducible repeat (first | refine blk_drewN ?_ _ | refine blk_drew ?_ | refine blk_alloc ?_ _)); refine blk_put (cs := #[.int .i64 0, .int .i64 0]) ?_ 0 _ rfl; (with_reducible repeat (first | refine blk_drewN ?_ _ | refine blk_drew ?_ | refine blk_alloc ?_ _)); exact BK167.out) hb); have n2_ := Aside0.mk (below_step (by repeat (first | (with_reducible first | exact HB.out | apply below_alloc | apply pw_below_drewN | apply below_drew1 | refine below_set ?_ GE165.out | refine below_set ?_ GE167.out) | exact HB.out)) hb); have n3_ := Aside0.mk (hbox); have n4_ := Aside0.mk ((by rw [hg]; exact (below_size (by repeat (first | (with_reducible first | exact HB.out | apply below_alloc | apply pw_below_drewN | apply below_drew1 | refine below_set ?_ GE165.out | refine below_set ?_ GE167.out) | exact HB.out))) : w.heap.size ≤ gb169)); have n5_ := Aside0.mk ((by rw [hg]; exact (below_size (by repeat (first | (with_reducible first | exact HB.out | apply below_alloc | apply pw_below_drewN | apply below_drew1 | refine below_set ?_ GE165.out | refine below_set ?_ GE167.out) | exact HB.out))) : w.heap.size ≤ gb169)); have n6_ := Aside0.mk ((by rw [hg]; exact Nat.ne_of_lt (blk_lt (g := gb165) (o := .cells #[.int .i64 a1_0, .int .i64 a1_1] 25 (0, 0)) (by (with_reducible repeat (first | refine blk_drewN ?_ _ | refine blk_drew ?_ | refine blk_alloc ?_ _)); refine blk_far ?_ NB165_167.out _; (with_reducible repeat (first | refine blk_drewN ?_ _ | refine blk_drew ?_ | refine blk_alloc ?_ _)); refine blk_far ?_ NB165_167.out _; (with_reducible repeat (first | refine blk_drewN ?_ _ | refine blk_drew ?_ | refine blk_alloc ?_ _)); exact BK165.out)) : gb165 ≠ gb169)); have n7_ := Aside0.mk ((by rw [hg]; exact Nat.ne_of_gt (blk_lt (g := gb165) (o := .cells #[.int .i64 a1_0, .int .i64 a1_1] 25 (0, 0)) (by (with_reducible repeat (first | refine blk_drewN ?_ _ | refine blk_drew ?_ | refine blk_alloc ?_ _)); refine blk_far ?_ NB165_167.out _; (with_reducible repeat (first | refine blk_drewN ?_ _ | refine blk_drew ?_ | refine blk_alloc ?_ _)); refine blk_far ?_ NB165_167.out _; (with_reducible repeat (first | refine blk_drewN ?_ _ | refine blk_drew ?_ | refine blk_alloc ?_ _)); exact BK165.out)) : gb169 ≠ gb165)); have n8_ := Aside0.mk ((by rw [hg]; exact Nat.ne_of_lt (blk_lt (g := gb167) (o := .cells #[.int .i64 ((rd_T25 l0 x12_1).f0), .int .i64 ((rd_T25 l0 x12_1).f1)] 25 (0, 0)) (by (with_reducible repeat (first | refine blk_drewN ?_ _ | refine blk_drew ?_ | refine blk_alloc ?_ _)); refine blk_put (cs := #[.int .i64 ((rd_T25 l0 x12_1).f0), .int .i64 0]) ?_ 1 _ rfl; (with_reducible repeat (first | refine blk_drewN ?_ _ | refine blk_drew ?_ | refine blk_alloc ?_ _)); refine blk_put (cs := #[.int .i64 0, .int .i64 0]) ?_ 0 _ rfl; (with_reducible repeat (first | refine blk_drewN ?_ _ | refine blk_drew ?_ | refine blk_alloc ?_ _)); exact BK167.out)) : gb167 ≠ gb169)); have n9_ := Aside0.mk ((by rw [hg]; exact Nat.ne_of_gt (blk_lt (g := gb167) (o := .cells #[.int .i64 ((rd_T25 l0 x12_1).f0), .int .i64 ((rd_T25 l0 x12_1).f1)] 25 (0, 0)) (by (with_reducible repeat (first | refine blk_drewN ?_ _ | refine blk_drew ?_ | refine blk_alloc ?_ _)); refine blk_put (cs := #[.int .i64 ((rd_T25 l0 x12_1).f0), .int .i64 0]) ?_ 1 _ rfl; (with_reducible repeat (first | refine blk_drewN ?_ _ | refine blk_drew ?_ | refine blk_alloc ?_ _)); refine blk_put (cs := #[.int .i64 0, .int .i64 0]) ?_ 0 _ rfl; (with_reducible repeat (first | refine blk_drewN ?_ _ | refine blk_drew ?_ | refine blk_alloc ?_ _)); exact BK167.out)) : gb169 ≠ gb167)); clear BK165; clear BK167; clear HB; have BK165 := n0_; have BK167 := n1_; have HB := n2_; have BK169 := n3_; have GW169 := n4_; have GE169 := n5_; have NB165_169 := n6_; have NB169_165 := n7_; have NB167_169 := n8_; have NB169_167 := n9_; clear n0_ n1_ n2_ n3_ n4_ n5_ n6_ n7_ n8_ n9_; clear hb hbox hg; have hnbx12ef1 := NB169_165.out; have hncx12ef1 := NB165_169.out; have hnbx12ef2 := NB169_167.out; have hncx12ef2 := NB167_169.out; have hczx12ef1 : wx12ef1.cell? ⟨gb169, 0, none⟩ = some (.int .i64 0) := (blk_cell BK169.out 0).trans rfl; have hczx12ef2 : wx12ef1.cell? ⟨gb169, 1, none⟩ = some (.int .i64 0) := (blk_cell BK169.out 1).trans rfl; have hfzx12ef1 := blk_frozen BK169.out 0; have hfzx12ef2 := blk_frozen BK169.out 1; have hczx12ef3 : wx12ef1.cell? ⟨gb167, 0, none⟩ = some (.int .i64 ((rd_T25 l0 x12_1).f0)) := (blk_cell BK167.out 0).trans rfl; have hczx12ef4 : wx12ef1.cell? ⟨gb167, 1, none⟩ = some (.int .i64 ((rd_T25 l0 x12_1).f1)) := (blk_cell BK167.out 1).trans rfl; have hfzx12ef3 := blk_frozen BK167.out 0; have hfzx12ef4 := blk_frozen BK167.out 1; have hczx12ef5 : wx12ef1.cell? ⟨gb165, 0, none⟩ = some (.int .i64 a1_0) := (blk_cell BK165.out 0).trans rfl; have hczx12ef6 : wx12ef1.cell? ⟨gb165, 1, none⟩ = some (.int .i64 a1_1) := (blk_cell BK165.out 1).trans rfl; have hfzx12ef5 := blk_frozen BK165.out 0; have hfzx12ef6 := blk_frozen BK165.out 1) | ((with_reducible refine gate_callee (f := 25) rfl ?_); refine goesL_ (some 31) rfl rfl Try.func25 (by kernel_rfl) rfl #[.agg #[.int .i64 ((rd_T25 l0 (ji8)).f0), .int .i64 ((rd_T25 l0 (ji8)).f1)], .agg #[.int .i64 ((rd_T25 l0 x12_1).f0), .int .i64 ((rd_T25 l0 x12_1).f1)], .agg #[.int .i64 a1_0, .int .i64 a1_1]] rfl (by (try simp only [List.map_toArray, List.map_cons, List.map_nil]); first | done | (simp only [hji8]; rfl) | rfl | (simp only [List.length_drop, List.length_take]; rfl)) ?_; (with_reducible refine (plane_Turn.calls ((rd_T25 l0 (ji8)).f0) ((rd_T25 l0 (ji8)).f1) ((rd_T25 l0 x12_1).f0) ((rd_T25 l0 x12_1).f1) a1_0 a1_1 t170 _ A11.out).mono ?_); rintro e wxd9f61 ⟨rfl, hb⟩; refine ⟨_, rfl, ?_⟩; have n0_ := Aside0.mk (blk_below (g := gb165) (o := .cells #[.int .i64 a1_0, .int .i64 a1_1] 25 (0, 0)) (by (with_reducible repeat (first | refine blk_drewN ?_ _ | refine blk_drew ?_ | refine blk_alloc ?_ _)); refine blk_far ?_ NB165_169.out _; (with_reducible repeat (first | refine blk_drewN ?_ _ | refine blk_drew ?_ | refine blk_alloc ?_ _)); refine blk_far ?_ NB165_169.out _; (with_reducible repeat (first | refine blk_drewN ?_ _ | refine blk_drew ?_ | refine blk_alloc ?_ _)); exact BK165.out) hb); have n1_ := Aside0.mk (blk_below (g := gb167) (o := .cells #[.int .i64 ((rd_T25 l0 x12_1).f0), .int .i64 ((rd_T25 l0 x12_1).f1)] 25 (0, 0)) (by (with_reducible repeat (first | refine blk_drewN ?_ _ | refine blk_drew ?_ | refine blk_alloc ?_ _)); refine blk_far ?_ NB167_169.out _; (with_reducible repeat (first | refine blk_drewN ?_ _ | refine blk_drew ?_ | refine blk_alloc ?_ _)); refine blk_far ?_ NB167_169.out _; (with_reducible repeat (first | refine blk_drewN ?_ _ | refine blk_drew ?_ | refine blk_alloc ?_ _)); exact BK167.out) hb); have n2_ := Aside0.mk (blk_below (g := gb169) (o := .cells #[.int .i64 ((rd_T25 l0 (ji8)).f0), .int .i64 ((rd_T25 l0 (ji8)).f1)] 25 (0, 0)) (by (with_reducible repeat (first | refine blk_drewN ?_ _ | refine blk_drew ?_ | refine blk_alloc ?_ _)); refine blk_put (cs := #[.int .i64 ((rd_T25 l0 (ji8)).f0), .int .i64 0]) ?_ 1 _ rfl; (with_reducible repeat (first | refine blk_drewN ?_ _ | refine blk_drew ?_ | refine blk_alloc ?_ _)); refine blk_put (cs := #[.int .i64 0, .int .i64 0]) ?_ 0 _ rfl; (with_reducible repeat (first | refine blk_drewN ?_ _ | refine blk_drew ?_ | refine blk_alloc ?_ _)); exact BK169.out) hb); have n3_ := Aside0.mk (below_step (by repeat (first | (with_reducible first | exact HB.out | apply below_alloc | apply pw_below_drewN | apply below_drew1 | refine below_set ?_ GE165.out | refine below_set ?_ GE167.out | refine below_set ?_ GE169.out) | exact HB.out)) hb); clear BK165; clear BK167; clear BK169; clear HB; have BK165 := n0_; have BK167 := n1_; have BK169 := n2_; have HB := n3_; clear n0_ n1_ n2_ n3_; (try clear hb); (try clear hb2); (try clear hk); (try clear hi)))
               (try simp only [Act.put, List.setIfInBounds_toArray, List.set_cons_zero, List.set_cons_succ])
               go_cut [39] (fun v39 wc => ∃ (kq : Nat) (x39_11 : Bool), v39 = .bool x39_11 ∧ Aside0 (polygon_locate.j1 kq l0 x5_1 t170 l0 (l0.length : Int) x12_1 x39_11 a1_0 a1_1 ((rd_T25 l0 x12_1).f0) ((rd_T25 l0 x12_1).f1) ((rd_T25 l0 (ji8)).f0) ((rd_T25 l0 (ji8)).f1) = some r) ∧ Aside0 (kq ≤ k1) ∧ Aside0 (wc.heap[gb165]? = some (.cells #[.int .i64 a1_0, .int .i64 a1_1] 25 (0, 0))) ∧ Aside0 (wc.heap[gb167]? = some (.cells #[.int .i64 ((rd_T25 l0 x12_1).f0), .int .i64 ((rd_T25 l0 x12_1).f1)] 25 (0, 0))) ∧ Aside0 (wc.heap[gb169]? = some (.cells #[.int .i64 ((rd_T25 l0 (ji8)).f0), .int .i64 ((rd_T25 l0 (ji8)).f1)] 25 (0, 0))) ∧ Aside0 (Below w.heap.size w wc))
               case first =>
                have H := HC12.out
                clear HC12
                refine Or.elim (Classical.em (t170 = 0)) (fun c23 => ?p2_) (fun c23 => ?n2_)
                case' p2_ =>
                 rw [if_pos c23] at H
                 have c23b0 : (t170 == 0) = true := beq_iff_eq.mpr c23
                 have c23b1 : (t170 != 0) = false := bne_eq_false_iff_eq.mpr c23
                 clear c23
                 (first | rw [c23b0] | (simp only [i64_w, i32_w]; rw [c23b0]) | skip)
                 replace H := Option.bind_eq_some_iff.mp H
                 obtain ⟨t171, A240, H⟩ := H
                 replace H : (polygon_locate.j1 k1 l0 x5_1 t170 l0 (l0.length : Int) x12_1 t171 a1_0 a1_1 ((rd_T25 l0 x12_1).f0) ((rd_T25 l0 x12_1).f1) ((rd_T25 l0 (ji8)).f0) ((rd_T25 l0 (ji8)).f1)) = some r := H
                 have A24 := Aside0.mk A240
                 clear A240
                 have hm1_0 := Aside0.mk trivial
                case' n2_ =>
                 rw [if_neg c23] at H
                 have c23b0 : (t170 == 0) = false := beq_eq_false_iff_ne.mpr c23
                 have c23b1 : (t170 != 0) = true := bne_iff_ne.mpr c23
                 (first | rw [c23b0] | (simp only [i64_w, i32_w]; rw [c23b0]) | skip)
                 have hm1_1 := Aside0.mk trivial
                all_goals
                 have H' := Aside0.mk H
                 clear H
                 first
                  | clear hm1_0
                    have hnbzd1 := NB169_165.out
                    have hnczd1 := NB165_169.out
                    have hnbzd2 := NB169_167.out
                    have hnczd2 := NB167_169.out
                    have hczzd1 : wxd9f61.cell? ⟨gb169, 0, none⟩ = some (.int .i64 ((rd_T25 l0 (ji8)).f0)) := (blk_cell BK169.out 0).trans rfl
                    have hczzd2 : wxd9f61.cell? ⟨gb169, 1, none⟩ = some (.int .i64 ((rd_T25 l0 (ji8)).f1)) := (blk_cell BK169.out 1).trans rfl
                    have hfzzd1 := blk_frozen BK169.out 0
                    have hfzzd2 := blk_frozen BK169.out 1
                    have hnbzd3 := NB167_165.out
                    have hnczd3 := NB165_167.out
                    have hczzd3 : wxd9f61.cell? ⟨gb167, 0, none⟩ = some (.int .i64 ((rd_T25 l0 x12_1).f0)) := (blk_cell BK167.out 0).trans rfl
                    have hczzd4 : wxd9f61.cell? ⟨gb167, 1, none⟩ = some (.int .i64 ((rd_T25 l0 x12_1).f1)) := (blk_cell BK167.out 1).trans rfl
                    have hfzzd3 := blk_frozen BK167.out 0
                    have hfzzd4 := blk_frozen BK167.out 1
                    have hczzd5 : wxd9f61.cell? ⟨gb165, 0, none⟩ = some (.int .i64 a1_0) := (blk_cell BK165.out 0).trans rfl
                    have hczzd6 : wxd9f61.cell? ⟨gb165, 1, none⟩ = some (.int .i64 a1_1) := (blk_cell BK165.out 1).trans rfl
                    have hfzzd5 := blk_frozen BK165.out 0
                    have hfzzd6 := blk_frozen BK165.out 1
                    go_wp2_with (first | (go_at_call 74; (with_reducible refine (polygon_on.calls ((rd_T25 l0 (ji8)).f0) ((rd_T25 l0 (ji8)).f1) ((rd_T25 l0 x12_1).f0) ((rd_T25 l0 x12_1).f1) a1_0 a1_1 t171 _ A24.out).mono ?_); rintro e wxc15e1 ⟨rfl, hb⟩; have n0_ := Aside0.mk (blk_below (g := gb165) (o := .cells #[.int .i64 a1_0, .int .i64 a1_1] 25 (0, 0)) (by (with_reducible repeat (first | refine blk_drewN ?_ _ | refine blk_drew ?_ | refine blk_alloc ?_ _)); exact BK165.out) hb); have n1_ := Aside0.mk (blk_below (g := gb167) (o := .cells #[.int .i64 ((rd_T25 l0 x12_1).f0), .int .i64 ((rd_T25 l0 x12_1).f1)] 25 (0, 0)) (by (with_reducible repeat (first | refine blk_drewN ?_ _ | refine blk_drew ?_ | refine blk_alloc ?_ _)); exact BK167.out) hb); have n2_ := Aside0.mk (blk_below (g := gb169) (o := .cells #[.int .i64 ((rd_T25 l0 (ji8)).f0), .int .i64 ((rd_T25 l0 (ji8)).f1)] 25 (0, 0)) (by (with_reducible repeat (first | refine blk_drewN ?_ _ | refine blk_drew ?_ | refine blk_alloc ?_ _)); exact BK169.out) hb); have n3_ := Aside0.mk (below_step (by repeat (first | (with_reducible first | exact HB.out | apply below_alloc | apply pw_below_drewN | apply below_drew1 | refine below_set ?_ GE165.out | refine below_set ?_ GE167.out | refine below_set ?_ GE169.out) | exact HB.out)) hb); clear BK165; clear BK167; clear BK169; clear HB; have BK165 := n0_; have BK167 := n1_; have BK169 := n2_; have HB := n3_; clear n0_ n1_ n2_ n3_; (try clear hb); (try clear hb2); (try clear hk); (try clear hi)))
                    go_meet
                    case rel => exact ⟨_, (t171), (by first | rfl | (simp; done) | (simp [*]; done)), H', ⟨by have := HK1.out; first | omega | exact Nat.le_refl _⟩, ⟨by (with_reducible repeat (first | refine blk_drewN ?_ _ | refine blk_drew ?_ | refine blk_alloc ?_ _)); exact BK165.out⟩, ⟨by (with_reducible repeat (first | refine blk_drewN ?_ _ | refine blk_drew ?_ | refine blk_alloc ?_ _)); exact BK167.out⟩, ⟨by (with_reducible repeat (first | refine blk_drewN ?_ _ | refine blk_drew ?_ | refine blk_alloc ?_ _)); exact BK169.out⟩, ⟨by repeat (first | (with_reducible first | exact HB.out | apply below_alloc | apply pw_below_drewN | apply below_drew1 | refine below_set ?_ GE165.out | refine below_set ?_ GE167.out | refine below_set ?_ GE169.out) | exact HB.out)⟩⟩
                  | clear hm1_1
                    go_wp2
                    go_meet
                    case rel => exact ⟨_, (false), (by first | rfl | (simp; done) | (simp [*]; done)), H', ⟨by have := HK1.out; first | omega | exact Nat.le_refl _⟩, ⟨by (with_reducible repeat (first | refine blk_drewN ?_ _ | refine blk_drew ?_ | refine blk_alloc ?_ _)); exact BK165.out⟩, ⟨by (with_reducible repeat (first | refine blk_drewN ?_ _ | refine blk_drew ?_ | refine blk_alloc ?_ _)); exact BK167.out⟩, ⟨by (with_reducible repeat (first | refine blk_drewN ?_ _ | refine blk_drew ?_ | refine blk_alloc ?_ _)); exact BK169.out⟩, ⟨by repeat (first | (with_reducible first | exact HB.out | apply below_alloc | apply pw_below_drewN | apply below_drew1 | refine below_set ?_ GE165.out | refine below_set ?_ GE167.out | refine below_set ?_ GE169.out) | exact HB.out)⟩⟩
               case rest =>
                clear HC12
                (try clear c1); (try clear p1); (try clear q1); (try clear hx1); (try clear c2); (try clear p2); (try clear c4); (try clear c4b0); (try clear c5); (try clear c5b0); (try clear c6); (try clear c6b0); (try clear p6); (try clear c7); (try clear c7b0); (try clear c7b1); (try clear c7b2); (try clear c9); (try clear c9b0); (try clear c10); (try clear c10b0); (try clear c14); (try clear p16); (try clear q16); (try clear hx16); (try clear c17); (try clear c18); (try clear c23); (try clear c23b0); (try clear c23b1); (try clear c25); (try clear c26); (try clear c28); (try clear hczxbd6b1); (try clear hczxbd6b2); (try clear hczx12ef1); (try clear hczx12ef2); (try clear hczx12ef3); (try clear hczx12ef4); (try clear hczx12ef5)
                (try clear hczx12ef6); (try clear hczzc1); (try clear hczzc2); (try clear hczzc3); (try clear hczzc4); (try clear hczzc5); (try clear hczzc6); (try clear hfzxbd6b1); (try clear hfzxbd6b2); (try clear hfzx12ef1); (try clear hfzx12ef2); (try clear hfzx12ef3); (try clear hfzx12ef4); (try clear hfzx12ef5); (try clear hfzx12ef6); (try clear hfzzc1); (try clear hfzzc2); (try clear hfzzc3); (try clear hfzzc4); (try clear hfzzc5); (try clear hfzzc6); (try clear hx166_0); (try clear hx166_1); (try clear hx168_0); (try clear hx168_1); (try clear p166); (try clear p168); (try clear p2); (try clear q166); (try clear q168)
                obtain ⟨kq, x39_11, rfl, HA, HJ11, BK165, BK167, BK169, HB⟩ := hcut
                cases kq with
                | zero => exact absurd HA.out (by simp [polygon_locate.j1])
                | succ kj11 =>
                 have H := HA.out
                 clear HA
                 simp only [polygon_locate.j1] at H
                 refine Or.elim (Classical.em (x39_11 = true)) (fun c32 => ?p4_) (fun c32 => ?n4_)
                 case' p4_ =>
                  subst c32
                  have H1 : (some 0) = some r := by rw [if_pos rfl] at H; exact H
                  clear H
                  have H := H1
                  clear H1
                  have hm3_0 := Aside0.mk trivial
                 case' n4_ =>
                  replace c32 := Bool.eq_false_iff.mpr c32
                  subst c32
                  have H1 : (if ((rd_T25 l0 (ji8)).f1) ≤ a1_1 then (if a1_1 < ((rd_T25 l0 x12_1).f1) then (if t170 > 0 then (polygon_locate.l0 kj11 l0 (wrap64 (-x5_1)) l0 (l0.length : Int) (wrap64 (x12_1 + 1)) a1_0 a1_1) else (if ((rd_T25 l0 x12_1).f1) ≤ a1_1 then (if a1_1 < ((rd_T25 l0 (ji8)).f1) then (if t170 < 0 then (polygon_locate.l0 kj11 l0 (wrap64 (-x5_1)) l0 (l0.length : Int) (wrap64 (x12_1 + 1)) a1_0 a1_1) else (polygon_locate.l0 kj11 l0 x5_1 l0 (l0.length : Int) (wrap64 (x12_1 + 1)) a1_0 a1_1)) else (polygon_locate.l0 kj11 l0 x5_1 l0 (l0.length : Int) (wrap64 (x12_1 + 1)) a1_0 a1_1)) else (polygon_locate.l0 kj11 l0 x5_1 l0 (l0.length : Int) (wrap64 (x12_1 + 1)) a1_0 a1_1))) else (if ((rd_T25 l0 x12_1).f1) ≤ a1_1 then (if a1_1 < ((rd_T25 l0 (ji8)).f1) then (if t170 < 0 then (polygon_locate.l0 kj11 l0 (wrap64 (-x5_1)) l0 (l0.length : Int) (wrap64 (x12_1 + 1)) a1_0 a1_1) else (polygon_locate.l0 kj11 l0 x5_1 l0 (l0.length : Int) (wrap64 (x12_1 + 1)) a1_0 a1_1)) else (polygon_locate.l0 kj11 l0 x5_1 l0 (l0.length : Int) (wrap64 (x12_1 + 1)) a1_0 a1_1)) else (polygon_locate.l0 kj11 l0 x5_1 l0 (l0.length : Int) (wrap64 (x12_1 + 1)) a1_0 a1_1))) else (if ((rd_T25 l0 x12_1).f1) ≤ a1_1 then (if a1_1 < ((rd_T25 l0 (ji8)).f1) then (if t170 < 0 then (polygon_locate.l0 kj11 l0 (wrap64 (-x5_1)) l0 (l0.length : Int) (wrap64 (x12_1 + 1)) a1_0 a1_1) else (polygon_locate.l0 kj11 l0 x5_1 l0 (l0.length : Int) (wrap64 (x12_1 + 1)) a1_0 a1_1)) else (polygon_locate.l0 kj11 l0 x5_1 l0 (l0.length : Int) (wrap64 (x12_1 + 1)) a1_0 a1_1)) else (polygon_locate.l0 kj11 l0 x5_1 l0 (l0.length : Int) (wrap64 (x12_1 + 1)) a1_0 a1_1))) = some r := by rw [if_neg (show ¬ (false = true) by decide)] at H; exact H
                  clear H
                  have H := H1
                  clear H1
                  refine Or.elim (Classical.em (((rd_T25 l0 (ji8)).f1) ≤ a1_1)) (fun c33 => ?p5_) (fun c33 => ?n5_)
                  case' p5_ =>
                   rw [if_pos c33] at H
                   have c33b0 : decide (((rd_T25 l0 (ji8)).f1) ≤ a1_1) = true := decide_eq_true c33
                   clear c33
                   refine Or.elim (Classical.em (a1_1 < ((rd_T25 l0 x12_1).f1))) (fun c34 => ?p6_) (fun c34 => ?n6_)
                   case' p6_ =>
                    rw [if_pos c34] at H
                    have c34b0 : decide (a1_1 < ((rd_T25 l0 x12_1).f1)) = true := decide_eq_true c34
                    clear c34
                    refine Or.elim (Classical.em (t170 > 0)) (fun c35 => ?p7_) (fun c35 => ?n7_)
                    case' p7_ =>
                     rw [if_pos c35] at H
                     have c35b0 : decide (0 < t170) = true := decide_eq_true c35
                     clear c35
                     have hm3_1 := Aside0.mk trivial
                    case' n7_ =>
                     rw [if_neg c35] at H
                     have c35b0 : decide (0 < t170) = false := decide_eq_false c35
                     clear c35
                     refine Or.elim (Classical.em (((rd_T25 l0 x12_1).f1) ≤ a1_1)) (fun c42 => ?p8_) (fun c42 => ?n8_)
                     case' p8_ =>
                      rw [if_pos c42] at H
                      have c42b0 : decide (((rd_T25 l0 x12_1).f1) ≤ a1_1) = true := decide_eq_true c42
                      clear c42
                      refine Or.elim (Classical.em (a1_1 < ((rd_T25 l0 (ji8)).f1))) (fun c43 => ?p9_) (fun c43 => ?n9_)
                      case' p9_ =>
                       rw [if_pos c43] at H
                       have c43b0 : decide (a1_1 < ((rd_T25 l0 (ji8)).f1)) = true := decide_eq_true c43
                       clear c43
                       refine Or.elim (Classical.em (t170 < 0)) (fun c44 => ?p10_) (fun c44 => ?n10_)
                       case' p10_ =>
                        rw [if_pos c44] at H
                        have c44b0 : decide (t170 < 0) = true := decide_eq_true c44
                        clear c44
                        have hm3_1 := Aside0.mk trivial
                       case' n10_ =>
                        rw [if_neg c44] at H
                        have c44b0 : decide (t170 < 0) = false := decide_eq_false c44
                        clear c44
                        have hm3_1 := Aside0.mk trivial
                      case' n9_ =>
                       rw [if_neg c43] at H
                       have c43b0 : decide (a1_1 < ((rd_T25 l0 (ji8)).f1)) = false := decide_eq_false c43
                       clear c43
                       have hm3_1 := Aside0.mk trivial
                     case' n8_ =>
                      rw [if_neg c42] at H
                      have c42b0 : decide (((rd_T25 l0 x12_1).f1) ≤ a1_1) = false := decide_eq_false c42
                      clear c42
                      have hm3_1 := Aside0.mk trivial
                   case' n6_ =>
                    rw [if_neg c34] at H
                    have c34b0 : decide (a1_1 < ((rd_T25 l0 x12_1).f1)) = false := decide_eq_false c34
                    clear c34
                    refine Or.elim (Classical.em (((rd_T25 l0 x12_1).f1) ≤ a1_1)) (fun c69 => ?p11_) (fun c69 => ?n11_)
                    case' p11_ =>
                     rw [if_pos c69] at H
                     have c69b0 : decide (((rd_T25 l0 x12_1).f1) ≤ a1_1) = true := decide_eq_true c69
                     clear c69
                     refine Or.elim (Classical.em (a1_1 < ((rd_T25 l0 (ji8)).f1))) (fun c70 => ?p12_) (fun c70 => ?n12_)
                     case' p12_ =>
                      rw [if_pos c70] at H
                      have c70b0 : decide (a1_1 < ((rd_T25 l0 (ji8)).f1)) = true := decide_eq_true c70
                      clear c70
                      refine Or.elim (Classical.em (t170 < 0)) (fun c71 => ?p13_) (fun c71 => ?n13_)
                      case' p13_ =>
                       rw [if_pos c71] at H
                       have c71b0 : decide (t170 < 0) = true := decide_eq_true c71
                       clear c71
                       have hm3_1 := Aside0.mk trivial
                      case' n13_ =>
                       rw [if_neg c71] at H
                       have c71b0 : decide (t170 < 0) = false := decide_eq_false c71
                       clear c71
                       have hm3_1 := Aside0.mk trivial
                     case' n12_ =>
                      rw [if_neg c70] at H
                      have c70b0 : decide (a1_1 < ((rd_T25 l0 (ji8)).f1)) = false := decide_eq_false c70
                      clear c70
                      have hm3_1 := Aside0.mk trivial
                    case' n11_ =>
                     rw [if_neg c69] at H
                     have c69b0 : decide (((rd_T25 l0 x12_1).f1) ≤ a1_1) = false := decide_eq_false c69
                     clear c69
                     have hm3_1 := Aside0.mk trivial
                  case' n5_ =>
                   rw [if_neg c33] at H
                   have c33b0 : decide (((rd_T25 l0 (ji8)).f1) ≤ a1_1) = false := decide_eq_false c33
                   clear c33
                   refine Or.elim (Classical.em (((rd_T25 l0 x12_1).f1) ≤ a1_1)) (fun c96 => ?p14_) (fun c96 => ?n14_)
                   case' p14_ =>
                    rw [if_pos c96] at H
                    have c96b0 : decide (((rd_T25 l0 x12_1).f1) ≤ a1_1) = true := decide_eq_true c96
                    clear c96
                    refine Or.elim (Classical.em (a1_1 < ((rd_T25 l0 (ji8)).f1))) (fun c97 => ?p15_) (fun c97 => ?n15_)
                    case' p15_ =>
                     rw [if_pos c97] at H
                     have c97b0 : decide (a1_1 < ((rd_T25 l0 (ji8)).f1)) = true := decide_eq_true c97
                     clear c97
                     refine Or.elim (Classical.em (t170 < 0)) (fun c98 => ?p16_) (fun c98 => ?n16_)
                     case' p16_ =>
                      rw [if_pos c98] at H
                      have c98b0 : decide (t170 < 0) = true := decide_eq_true c98
                      clear c98
                      have hm3_1 := Aside0.mk trivial
                     case' n16_ =>
                      rw [if_neg c98] at H
                      have c98b0 : decide (t170 < 0) = false := decide_eq_false c98
                      clear c98
                      have hm3_1 := Aside0.mk trivial
                    case' n15_ =>
                     rw [if_neg c97] at H
                     have c97b0 : decide (a1_1 < ((rd_T25 l0 (ji8)).f1)) = false := decide_eq_false c97
                     clear c97
                     have hm3_1 := Aside0.mk trivial
                   case' n14_ =>
                    rw [if_neg c96] at H
                    have c96b0 : decide (((rd_T25 l0 x12_1).f1) ≤ a1_1) = false := decide_eq_false c96
                    clear c96
                    have hm3_1 := Aside0.mk trivial
                 all_goals
                  first
                   | clear hm3_0
                     obtain rfl := Option.some.inj H
                     go_wp2
                     go_ret
                     exact ⟨by first | rfl | (simp [errW_none, errW_some] <;> rfl) | (simp only [← hji8]; first | rfl | (simp [errW_none, errW_some] <;> rfl)) | (simp [*, errW_none, errW_some] <;> rfl), by repeat (first | (with_reducible first | exact HB.out | apply below_alloc | apply pw_below_drewN | apply below_drew1 | refine below_set ?_ GE165.out | refine below_set ?_ GE167.out | refine below_set ?_ GE169.out) | exact HB.out)⟩
                   | clear hm3_1
                     have H' := Aside0.mk H
                     clear H
                     have hnbze1 := NB169_165.out
                     have hncze1 := NB165_169.out
                     have hnbze2 := NB169_167.out
                     have hncze2 := NB167_169.out
                     have hczze1 : wc.cell? ⟨gb169, 0, none⟩ = some (.int .i64 ((rd_T25 l0 (ji8)).f0)) := (blk_cell BK169.out 0).trans rfl
                     have hczze2 : wc.cell? ⟨gb169, 1, none⟩ = some (.int .i64 ((rd_T25 l0 (ji8)).f1)) := (blk_cell BK169.out 1).trans rfl
                     have hfzze1 := blk_frozen BK169.out 0
                     have hfzze2 := blk_frozen BK169.out 1
                     have hnbze3 := NB165_167.out
                     have hncze3 := NB167_165.out
                     have hczze3 : wc.cell? ⟨gb165, 0, none⟩ = some (.int .i64 a1_0) := (blk_cell BK165.out 0).trans rfl
                     have hczze4 : wc.cell? ⟨gb165, 1, none⟩ = some (.int .i64 a1_1) := (blk_cell BK165.out 1).trans rfl
                     have hfzze3 := blk_frozen BK165.out 0
                     have hfzze4 := blk_frozen BK165.out 1
                     have hczze5 : wc.cell? ⟨gb167, 0, none⟩ = some (.int .i64 ((rd_T25 l0 x12_1).f0)) := (blk_cell BK167.out 0).trans rfl
                     have hczze6 : wc.cell? ⟨gb167, 1, none⟩ = some (.int .i64 ((rd_T25 l0 x12_1).f1)) := (blk_cell BK167.out 1).trans rfl
                     have hfzze5 := blk_frozen BK167.out 0
                     have hfzze6 := blk_frozen BK167.out 1
                     go_wp2
                     first | go_roundg kj11 | (subst hji8; go_roundg kj11)
                     case measure => have := HK1.out; have := HJ11.out; omega
                     case rel => first | (exact ⟨(wrap64 (-x5_1)), (wrap64 (x12_1 + 1)), (by first | rfl | (simp; done) | (simp [*]; done)), (by first | rfl | (simp; done) | (simp [*]; done)), H', ⟨by have := HK1.out; have := HJ11.out; omega⟩, ⟨by (with_reducible repeat (first | refine blk_drewN ?_ _ | refine blk_drew ?_ | refine blk_alloc ?_ _)); exact BK165.out⟩, ⟨by repeat (first | (with_reducible first | exact HB.out | apply below_alloc | apply pw_below_drewN | apply below_drew1 | refine below_set ?_ GE165.out | refine below_set ?_ GE167.out | refine below_set ?_ GE169.out) | exact HB.out)⟩⟩) | (exact ⟨(x5_1), (wrap64 (x12_1 + 1)), (by first | rfl | (simp; done) | (simp [*]; done)), (by first | rfl | (simp; done) | (simp [*]; done)), H', ⟨by have := HK1.out; have := HJ11.out; omega⟩, ⟨by (with_reducible repeat (first | refine blk_drewN ?_ _ | refine blk_drew ?_ | refine blk_alloc ?_ _)); exact BK165.out⟩, ⟨by repeat (first | (with_reducible first | exact HB.out | apply below_alloc | apply pw_below_drewN | apply below_drew1 | refine below_set ?_ GE165.out | refine below_set ?_ GE167.out | refine below_set ?_ GE169.out) | exact HB.out)⟩⟩)
             · rw [if_neg c10] at H
               exact absurd H (by simp)
           · rw [if_neg c9] at H
             exact absurd H (by simp)
       · rw [if_neg c6] at H
         exact absurd H (by simp)
     · rw [if_neg c5] at H
       exact absurd H (by simp)
   · rw [if_neg c4] at H
     have c4b0 : decide (x12_1 < (l0.length : Int)) = false := decide_eq_false c4
     clear c4
     obtain rfl := Option.some.inj H
     go_wp2
     go_ret
     exact ⟨by first | rfl | (simp [errW_none, errW_some] <;> rfl) | (simp [*, errW_none, errW_some] <;> rfl), by repeat (first | (with_reducible first | exact HB.out | apply below_alloc | apply pw_below_drewN | apply below_drew1 | refine below_set ?_ GE165.out) | exact HB.out)⟩

/-! ### polygon_Locate: function 17 -/
def polygon_Locate.f (k : Nat) (l0 : List (S25)) (a1_0 : Int) (a1_1 : Int) : Option (Int × Int) := (polygon_Check.f k l0).bind fun t173 => (if t173 = 0 then ((plane_Check.f a1_0 a1_1).bind fun t174 => (if t174 = 0 then ((polygon_locate.f k l0 a1_0 a1_1).bind fun t175 => (some (t175, 0))) else (some (0, t174)))) else (some (0, t173)))
theorem polygon_Locate.mono : ∀ a0 a1 a2 k, LeO (polygon_Locate.f k a0 a1 a2) (polygon_Locate.f (k + 1) a0 a1 a2) := by
  intro a0 a1 a2 k
  unfold polygon_Locate.f
  repeat' first
      | (with_reducible exact polygon_Check.mono _ _)
      | (with_reducible exact polygon_locate.mono _ _ _ _)
      | (with_reducible exact LeO.refl _)
      | (with_reducible exact LeO.none _)
      | (with_reducible refine LeO.ite ?_ ?_)
      | (with_reducible refine LeO.bind ?_ (fun _ => ?_))
      | exact polygon_Check.mono _ _
      | exact polygon_locate.mono _ _ _ _
      | exact LeO.none _
      | refine LeO.ite ?_ ?_
      | refine LeO.bind ?_ (fun _ => ?_)
set_option maxHeartbeats 8000000 in
set_option maxRecDepth 100000 in
theorem polygon_Locate.calls (k : Nat) (A0 : Option Addr) (c0 : Nat) (l0 : List (S25)) (a1_0 : Int) (a1_1 : Int) (r1 : Int) (r2 : Int) (w : World) (hr0 : Kd.C k25 w A0 l0.length l0) (hc0 : l0.length ≤ c0) (h : polygon_Locate.f k l0 a1_0 a1_1 = some (r1, r2)) :
    Calls Try.prog 17 #[.slice A0 l0.length c0, .agg #[.int .i64 a1_0, .int .i64 a1_1]] w fun e w' => e = .returned (.tuple #[.int .i64 r1, .int .i64 r2]) ∧ Below w.heap.size w w' := by
 have hu25 := Try.underlying25
 have HR0 := Aside0.mk hr0
 have HC0 := Aside0.mk hc0
 clear hr0 hc0
 have HB := Aside0.mk (Below.refl w.heap.size w)
 have H : ((polygon_Check.f k l0).bind fun t173 => (if t173 = 0 then ((plane_Check.f a1_0 a1_1).bind fun t174 => (if t174 = 0 then ((polygon_locate.f k l0 a1_0 a1_1).bind fun t175 => (some (t175, 0))) else (some (0, t174)))) else (some (0, t173)))) = some (r1, r2) := h
 clear h
 replace H := Option.bind_eq_some_iff.mp H
 obtain ⟨t173, A30, H⟩ := H
 replace H : (if t173 = 0 then ((plane_Check.f a1_0 a1_1).bind fun t174 => (if t174 = 0 then ((polygon_locate.f k l0 a1_0 a1_1).bind fun t175 => (some (t175, 0))) else (some (0, t174)))) else (some (0, t173))) = some (r1, r2) := H
 have A3 := Aside0.mk A30
 clear A30
 refine Or.elim (Classical.em (t173 = 0)) (fun c4 => ?p2_) (fun c4 => ?n2_)
 case' p2_ =>
  rw [if_pos c4] at H
  have c4b0 : (t173 == 0) = true := beq_iff_eq.mpr c4
  have c4b1 : (t173 != 0) = false := bne_eq_false_iff_eq.mpr c4
  clear c4
  replace H := Option.bind_eq_some_iff.mp H
  obtain ⟨t174, A50, H⟩ := H
  replace H : (if t174 = 0 then ((polygon_locate.f k l0 a1_0 a1_1).bind fun t175 => (some (t175, 0))) else (some (0, t174))) = some (r1, r2) := H
  have A5 := Aside0.mk A50
  clear A50
  refine Or.elim (Classical.em (t174 = 0)) (fun c6 => ?p3_) (fun c6 => ?n3_)
  case' p3_ =>
   rw [if_pos c6] at H
   have c6b0 : (t174 == 0) = true := beq_iff_eq.mpr c6
   have c6b1 : (t174 != 0) = false := bne_eq_false_iff_eq.mpr c6
   clear c6
   replace H := Option.bind_eq_some_iff.mp H
   obtain ⟨t175, A70, H⟩ := H
   replace H : (some (t175, 0)) = some (r1, r2) := H
   have A7 := Aside0.mk A70
   clear A70
   simp only [Option.some.injEq, Prod.mk.injEq] at H
   obtain ⟨rfl, rfl⟩ := H
  case' n3_ =>
   rw [if_neg c6] at H
   have c6b0 : (t174 == 0) = false := beq_eq_false_iff_ne.mpr c6
   have c6b1 : (t174 != 0) = true := bne_iff_ne.mpr c6
   simp only [Option.some.injEq, Prod.mk.injEq] at H
   obtain ⟨rfl, rfl⟩ := H
 case' n2_ =>
  rw [if_neg c4] at H
  have c4b0 : (t173 == 0) = false := beq_eq_false_iff_ne.mpr c4
  have c4b1 : (t173 != 0) = true := bne_iff_ne.mpr c4
  simp only [Option.some.injEq, Prod.mk.injEq] at H
  obtain ⟨rfl, rfl⟩ := H
 all_goals
  go_enter Try.func17, Try.ntmps17
  go_wp2_with (first | ((with_reducible refine gate_dst (N := 3) rfl ?_); refine box_event ?hg (N := 3) ?hd (cs := #[.int .i64 a1_0, .int .i64 a1_1]) (t := 25) ?hr ?_; (case hd => rfl); (case hg => rfl); (case hr => first | (go_simp; done) | (go_simp; rfl)); intro gb172 hg wx81291 hbox hb; have n0_ := Aside0.mk (below_step (by repeat (first | (with_reducible first | exact HB.out | apply below_alloc | apply pw_below_drewN | apply below_drew1) | exact HB.out)) hb); have n1_ := Aside0.mk (hbox); have n2_ := Aside0.mk ((by rw [hg]; exact (below_size (by repeat (first | (with_reducible first | exact HB.out | apply below_alloc | apply pw_below_drewN | apply below_drew1) | exact HB.out))) : w.heap.size ≤ gb172)); have n3_ := Aside0.mk ((by rw [hg]; exact (below_size (by repeat (first | (with_reducible first | exact HB.out | apply below_alloc | apply pw_below_drewN | apply below_drew1) | exact HB.out))) : w.heap.size ≤ gb172)); clear HB; have HB := n0_; have BK172 := n1_; have GW172 := n2_; have GE172 := n3_; clear n0_ n1_ n2_ n3_; clear hb hbox hg) | ((with_reducible refine gate_callee (f := 44) rfl ?_); refine goesL_ (some 9) rfl rfl Try.func44 (by kernel_rfl) rfl #[.slice A0 l0.length c0] rfl (by (try simp only [List.map_toArray, List.map_cons, List.map_nil]); first | done | rfl | (simp only [List.length_drop, List.length_take]; rfl)) ?_; (with_reducible refine (polygon_Check.calls k _ _ l0 t173 _ ?side1 ?side2 A3.out).mono ?_); (case side1 => repeat (first | exact (Kd.C_below HR0.out HB.out) | (with_reducible refine Kd.C_alloc ?_ _) | (with_reducible refine Kd.C_drewN ?_ _) | (with_reducible refine Kd.C_drew ?_))); (case side2 => exact HC0.out); rintro e wx84531 ⟨rfl, hb⟩; refine ⟨_, rfl, ?_⟩; have n0_ := Aside0.mk (blk_below (g := gb172) (o := .cells #[.int .i64 a1_0, .int .i64 a1_1] 25 (0, 0)) (by (with_reducible repeat (first | refine blk_drewN ?_ _ | refine blk_drew ?_ | refine blk_alloc ?_ _)); exact BK172.out) hb); have n1_ := Aside0.mk (below_step (by repeat (first | (with_reducible first | exact HB.out | apply below_alloc | apply pw_below_drewN | apply below_drew1 | refine below_set ?_ GE172.out) | exact HB.out)) hb); clear BK172; clear HB; have BK172 := n0_; have HB := n1_; clear n0_ n1_; (try clear hb); (try clear hb2); (try clear hk); (try clear hi); have hczx84531 : wx84531.cell? ⟨gb172, 0, none⟩ = some (.int .i64 a1_0) := (blk_cell BK172.out 0).trans rfl; have hczx84532 : wx84531.cell? ⟨gb172, 1, none⟩ = some (.int .i64 a1_1) := (blk_cell BK172.out 1).trans rfl; have hfzx84531 := blk_frozen BK172.out 0; have hfzx84532 := blk_frozen BK172.out 1) | ((with_reducible refine gate_callee (f := 44) rfl ?_); refine goesL_ (some 9) rfl rfl Try.func44 (by kernel_rfl) rfl #[.slice A0 l0.length c0] rfl (by (try simp only [List.map_toArray, List.map_cons, List.map_nil]); first | done | rfl | (simp only [List.length_drop, List.length_take]; rfl)) ?_; (with_reducible refine (polygon_Check.calls k _ _ l0 t173 _ ?side1 ?side2 A3.out).mono ?_); (case side1 => repeat (first | exact (Kd.C_below HR0.out HB.out) | (with_reducible refine Kd.C_alloc ?_ _) | (with_reducible refine Kd.C_drewN ?_ _) | (with_reducible refine Kd.C_drew ?_))); (case side2 => exact HC0.out); rintro e wxfd181 ⟨rfl, hb⟩; refine ⟨_, rfl, ?_⟩; have n0_ := Aside0.mk (blk_below (g := gb172) (o := .cells #[.int .i64 a1_0, .int .i64 a1_1] 25 (0, 0)) (by (with_reducible repeat (first | refine blk_drewN ?_ _ | refine blk_drew ?_ | refine blk_alloc ?_ _)); exact BK172.out) hb); have n1_ := Aside0.mk (below_step (by repeat (first | (with_reducible first | exact HB.out | apply below_alloc | apply pw_below_drewN | apply below_drew1 | refine below_set ?_ GE172.out) | exact HB.out)) hb); clear BK172; clear HB; have BK172 := n0_; have HB := n1_; clear n0_ n1_; (try clear hb); (try clear hb2); (try clear hk); (try clear hi)) | ((with_reducible refine gate_callee (f := 45) rfl ?_); refine goesL_ (some 14) rfl rfl Try.func45 (by kernel_rfl) rfl #[.agg #[.int .i64 a1_0, .int .i64 a1_1]] rfl (by (try simp only [List.map_toArray, List.map_cons, List.map_nil]); first | done | rfl | (simp only [List.length_drop, List.length_take]; rfl)) ?_; (with_reducible refine (plane_Check.calls a1_0 a1_1 t174 _ A5.out).mono ?_); rintro e wx6ec91 ⟨rfl, hb⟩; refine ⟨_, rfl, ?_⟩; have n0_ := Aside0.mk (blk_below (g := gb172) (o := .cells #[.int .i64 a1_0, .int .i64 a1_1] 25 (0, 0)) (by (with_reducible repeat (first | refine blk_drewN ?_ _ | refine blk_drew ?_ | refine blk_alloc ?_ _)); exact BK172.out) hb); have n1_ := Aside0.mk (below_step (by repeat (first | (with_reducible first | exact HB.out | apply below_alloc | apply pw_below_drewN | apply below_drew1 | refine below_set ?_ GE172.out) | exact HB.out)) hb); clear BK172; clear HB; have BK172 := n0_; have HB := n1_; clear n0_ n1_; (try clear hb); (try clear hb2); (try clear hk); (try clear hi); have hczx6ec91 : wx6ec91.cell? ⟨gb172, 0, none⟩ = some (.int .i64 a1_0) := (blk_cell BK172.out 0).trans rfl; have hczx6ec92 : wx6ec91.cell? ⟨gb172, 1, none⟩ = some (.int .i64 a1_1) := (blk_cell BK172.out 1).trans rfl; have hfzx6ec91 := blk_frozen BK172.out 0; have hfzx6ec92 := blk_frozen BK172.out 1) | ((with_reducible refine gate_callee (f := 45) rfl ?_); refine goesL_ (some 14) rfl rfl Try.func45 (by kernel_rfl) rfl #[.agg #[.int .i64 a1_0, .int .i64 a1_1]] rfl (by (try simp only [List.map_toArray, List.map_cons, List.map_nil]); first | done | rfl | (simp only [List.length_drop, List.length_take]; rfl)) ?_; (with_reducible refine (plane_Check.calls a1_0 a1_1 t174 _ A5.out).mono ?_); rintro e wx72381 ⟨rfl, hb⟩; refine ⟨_, rfl, ?_⟩; have n0_ := Aside0.mk (blk_below (g := gb172) (o := .cells #[.int .i64 a1_0, .int .i64 a1_1] 25 (0, 0)) (by (with_reducible repeat (first | refine blk_drewN ?_ _ | refine blk_drew ?_ | refine blk_alloc ?_ _)); exact BK172.out) hb); have n1_ := Aside0.mk (below_step (by repeat (first | (with_reducible first | exact HB.out | apply below_alloc | apply pw_below_drewN | apply below_drew1 | refine below_set ?_ GE172.out) | exact HB.out)) hb); clear BK172; clear HB; have BK172 := n0_; have HB := n1_; clear n0_ n1_; (try clear hb); (try clear hb2); (try clear hk); (try clear hi)) | ((with_reducible refine gate_callee (f := 46) rfl ?_); refine goesL_ (some 20) rfl rfl Try.func46 (by kernel_rfl) rfl #[.slice A0 l0.length c0, .agg #[.int .i64 a1_0, .int .i64 a1_1]] rfl (by (try simp only [List.map_toArray, List.map_cons, List.map_nil]); first | done | rfl | (simp only [List.length_drop, List.length_take]; rfl)) ?_; (with_reducible refine (polygon_locate.calls k _ _ l0 a1_0 a1_1 t175 _ ?side1 ?side2 A7.out).mono ?_); (case side1 => repeat (first | exact (Kd.C_below HR0.out HB.out) | (with_reducible refine Kd.C_alloc ?_ _) | (with_reducible refine Kd.C_drewN ?_ _) | (with_reducible refine Kd.C_drew ?_))); (case side2 => exact HC0.out); rintro e wxddbd1 ⟨rfl, hb⟩; refine ⟨_, rfl, ?_⟩; have n0_ := Aside0.mk (blk_below (g := gb172) (o := .cells #[.int .i64 a1_0, .int .i64 a1_1] 25 (0, 0)) (by (with_reducible repeat (first | refine blk_drewN ?_ _ | refine blk_drew ?_ | refine blk_alloc ?_ _)); exact BK172.out) hb); have n1_ := Aside0.mk (below_step (by repeat (first | (with_reducible first | exact HB.out | apply below_alloc | apply pw_below_drewN | apply below_drew1 | refine below_set ?_ GE172.out) | exact HB.out)) hb); clear BK172; clear HB; have BK172 := n0_; have HB := n1_; clear n0_ n1_; (try clear hb); (try clear hb2); (try clear hk); (try clear hi)))
  go_ret2
  exact ⟨by first | rfl | (simp [errW_none, errW_some] <;> rfl) | (simp [*, errW_none, errW_some] <;> rfl), by repeat (first | (with_reducible first | exact HB.out | apply below_alloc | apply pw_below_drewN | apply below_drew1 | refine below_set ?_ GE172.out) | exact HB.out)⟩

/-! ### volume_CheckSpans: function 59 -/
def volume_CheckSpans.l0 : Nat → List (S58) → Int → Int → Option (Int)
  | 0, _, _, _ => none
  | k + 1, x8, x9, x10 => if x10 < x9 then (if 0 ≤ x10 then (if x10 < (x8.length : Int) then (if ((rd_T58 x8 x10).f0) < 0 then (some 12) else (if ((rd_T58 x8 x10).f1) > 200000 then (some 12) else (if ((rd_T58 x8 x10).f0) ≥ ((rd_T58 x8 x10).f1) then (some 12) else (volume_CheckSpans.l0 k x8 x9 (wrap64 (x10 + 1)))))) else (none)) else (none)) else (some 0)
def volume_CheckSpans.f (k : Nat) (l0 : List (S58)) : Option (Int) := if (l0.length : Int) > 256 then (some 2) else (volume_CheckSpans.l0 k l0 (l0.length : Int) 0)
theorem volume_CheckSpans.mono_l : ∀ k, (∀ y0 y1 y2, LeO (volume_CheckSpans.l0 k y0 y1 y2) (volume_CheckSpans.l0 (k + 1) y0 y1 y2))
  | 0 => fun _ _ _ r h => by simp [volume_CheckSpans.l0] at h
  | k + 1 => by
    have ih0 := volume_CheckSpans.mono_l k
    · intro y0 y1 y2
      unfold volume_CheckSpans.l0
      repeat' first
      | (with_reducible exact ih0 _ _ _)
      | (with_reducible exact LeO.refl _)
      | (with_reducible exact LeO.none _)
      | (with_reducible refine LeO.ite ?_ ?_)
      | (with_reducible refine LeO.bind ?_ (fun _ => ?_))
      | exact ih0 _ _ _
      | exact LeO.none _
      | refine LeO.ite ?_ ?_
      | refine LeO.bind ?_ (fun _ => ?_)
theorem volume_CheckSpans.mono : ∀ a0 k, LeO (volume_CheckSpans.f k a0) (volume_CheckSpans.f (k + 1) a0) := by
  intro a0 k
  have ih0 := volume_CheckSpans.mono_l k
  unfold volume_CheckSpans.f
  repeat' first
      | (with_reducible exact ih0 _ _ _)
      | (with_reducible exact LeO.refl _)
      | (with_reducible exact LeO.none _)
      | (with_reducible refine LeO.ite ?_ ?_)
      | (with_reducible refine LeO.bind ?_ (fun _ => ?_))
      | exact ih0 _ _ _
      | exact LeO.none _
      | refine LeO.ite ?_ ?_
      | refine LeO.bind ?_ (fun _ => ?_)
set_option maxHeartbeats 8000000 in
set_option maxRecDepth 100000 in
theorem volume_CheckSpans.calls (k : Nat) (A0 : Option Addr) (c0 : Nat) (l0 : List (S58)) (r : Int) (w : World) (hr0 : Kd.C k58 w A0 l0.length l0) (hc0 : l0.length ≤ c0) (h : volume_CheckSpans.f k l0 = some r) :
    Calls Try.prog 59 #[.slice A0 l0.length c0] w fun e w' => e = .returned (.int .i64 r) ∧ Below w.heap.size w w' := by
 have hu58 := Try.underlying58
 have HR0 := Aside0.mk hr0
 have HC0 := Aside0.mk hc0
 clear hr0 hc0
 have HB := Aside0.mk (Below.refl w.heap.size w)
 have H : (if (l0.length : Int) > 256 then (some 2) else (volume_CheckSpans.l0 k l0 (l0.length : Int) 0)) = some r := h
 clear h
 by_cases c2 : (l0.length : Int) > 256
 · rw [if_pos c2] at H
   have c2b0 : decide (256 < (l0.length : Int)) = true := decide_eq_true c2
   have c2b1 : decide (256 < l0.length) = true := decide_eq_true (by omega)
   clear c2
   obtain rfl := Option.some.inj H
   go_enter Try.func59, Try.ntmps59
   go_wp2
   go_ret
   exact ⟨by first | rfl | (simp [errW_none, errW_some] <;> rfl) | (simp [*, errW_none, errW_some] <;> rfl), by repeat (first | (with_reducible first | exact HB.out | apply below_alloc | apply pw_below_drewN | apply below_drew1) | exact HB.out)⟩
 · rw [if_neg c2] at H
   have c2b0 : decide (256 < (l0.length : Int)) = false := decide_eq_false c2
   have c2b1 : decide (256 < l0.length) = false := decide_eq_false (by omega)
   clear c2
   have H' := Aside0.mk H
   clear H
   go_enter Try.func59, Try.ntmps59
   go_wp2
   go_loopg [10] k (fun kq v10 w' => ∃ (x10_1 : Int), v10 = .int .i64 x10_1 ∧ Aside0 (volume_CheckSpans.l0 kq l0 (l0.length : Int) x10_1 = some r) ∧ Aside0 (kq ≤ k) ∧ Aside0 (Below w.heap.size w w'))
   case atStart => exact ⟨(0), (by first | rfl | (simp; done) | (simp [*]; done)), H', ⟨Nat.le_refl _⟩, ⟨by repeat (first | (with_reducible first | exact HB.out | apply below_alloc | apply pw_below_drewN | apply below_drew1) | exact HB.out)⟩⟩
   case round =>
    clear H'
    (try clear c2); (try clear c2b0); (try clear c2b1); (try clear p2)
    obtain ⟨x10_1, rfl, HA, HK1, HB⟩ := hrel
    cases gk with
    | zero => exact absurd HA.out (by simp [volume_CheckSpans.l0])
    | succ k1 =>
     have H := HA.out
     clear HA
     simp only [volume_CheckSpans.l0] at H
     refine Or.elim (Classical.em (x10_1 < (l0.length : Int))) (fun c3 => ?p2_) (fun c3 => ?n2_)
     case' p2_ =>
      rw [if_pos c3] at H
      have c3b0 : decide (x10_1 < (l0.length : Int)) = true := decide_eq_true c3
      clear c3
      refine Or.elim (Classical.em (0 ≤ x10_1)) (fun c4 => ?p3_) (fun c4 => ?n3_)
      case' p3_ =>
       rw [if_pos c4] at H
       have c4b0 : decide (0 ≤ x10_1) = true := decide_eq_true c4
       clear c4
       refine Or.elim (Classical.em (x10_1 < (l0.length : Int))) (fun c5 => ?p4_) (fun c5 => ?n4_)
       case' p4_ =>
        rw [if_pos c5] at H
        have c5b0 : decide (x10_1 < (l0.length : Int)) = true := decide_eq_true c5
        clear c5
        refine Or.elim (Classical.em (((rd_T58 l0 x10_1).f0) < 0)) (fun c6 => ?p5_) (fun c6 => ?n5_)
        case' p5_ =>
         rw [if_pos c6] at H
         have c6b0 : decide (((rd_T58 l0 x10_1).f0) < 0) = true := decide_eq_true c6
         clear c6
         have hm1_0 := Aside0.mk trivial
        case' n5_ =>
         rw [if_neg c6] at H
         have c6b0 : decide (((rd_T58 l0 x10_1).f0) < 0) = false := decide_eq_false c6
         clear c6
         refine Or.elim (Classical.em (((rd_T58 l0 x10_1).f1) > 200000)) (fun c9 => ?p6_) (fun c9 => ?n6_)
         case' p6_ =>
          rw [if_pos c9] at H
          have c9b0 : decide (200000 < ((rd_T58 l0 x10_1).f1)) = true := decide_eq_true c9
          clear c9
          have hm1_0 := Aside0.mk trivial
         case' n6_ =>
          rw [if_neg c9] at H
          have c9b0 : decide (200000 < ((rd_T58 l0 x10_1).f1)) = false := decide_eq_false c9
          clear c9
          refine Or.elim (Classical.em (((rd_T58 l0 x10_1).f0) ≥ ((rd_T58 l0 x10_1).f1))) (fun c12 => ?p7_) (fun c12 => ?n7_)
          case' p7_ =>
           rw [if_pos c12] at H
           have c12b0 : decide (((rd_T58 l0 x10_1).f1) ≤ ((rd_T58 l0 x10_1).f0)) = true := decide_eq_true c12
           clear c12
           have hm1_0 := Aside0.mk trivial
          case' n7_ =>
           rw [if_neg c12] at H
           have c12b0 : decide (((rd_T58 l0 x10_1).f1) ≤ ((rd_T58 l0 x10_1).f0)) = false := decide_eq_false c12
           clear c12
           have hm1_1 := Aside0.mk trivial
       case' n4_ =>
        rw [if_neg c5] at H
        exact absurd H (by simp)
      case' n3_ =>
       rw [if_neg c4] at H
       exact absurd H (by simp)
     case' n2_ =>
      rw [if_neg c3] at H
      have c3b0 : decide (x10_1 < (l0.length : Int)) = false := decide_eq_false c3
      clear c3
      have hm1_2 := Aside0.mk trivial
     all_goals
      first
       | (first | (have _hm := hm1_0) | (have _hm := hm1_2))
         obtain rfl := Option.some.inj H
         first
          | clear hm1_0
            have p176 : 0 ≤ (x10_1 : Int) := of_decide_eq_true (by first | (with_reducible assumption) | assumption)
            have q176 : x10_1 < (l0.length : Int) := of_decide_eq_true (by first | (with_reducible assumption) | assumption)
            obtain ⟨ad176, e176, hx176_0, hx176_1⟩ := at_T58 HR0.out x10_1 p176 q176
            cases e176
            replace hx176_0 := (HB.out.cell (World.block_lt_of_cell? w _ hx176_0)).trans hx176_0
            replace hx176_1 := (HB.out.cell (World.block_lt_of_cell? w _ hx176_1)).trans hx176_1
            replace p176 := eq_true p176
            replace q176 := eq_true q176
            go_wp2_with (first | ((with_reducible refine gate_dst (N := 4) rfl ?_); refine box_event ?hg (N := 4) ?hd (cs := #[.int .i64 0, .int .i64 0]) (t := 58) ?hr ?_; (case hd => rfl); (case hg => rfl); (case hr => first | (go_simp; done) | (go_simp; rfl)); intro gb177 hg wx9eac1 hbox hb; have n0_ := Aside0.mk (below_step (by repeat (first | (with_reducible first | exact HB.out | apply below_alloc | apply pw_below_drewN | apply below_drew1) | exact HB.out)) hb); have n1_ := Aside0.mk (hbox); have n2_ := Aside0.mk ((by rw [hg]; exact (below_size (by repeat (first | (with_reducible first | exact HB.out | apply below_alloc | apply pw_below_drewN | apply below_drew1) | exact HB.out))) : w.heap.size ≤ gb177)); have n3_ := Aside0.mk ((by rw [hg]; exact (below_size (by repeat (first | (with_reducible first | exact HB.out | apply below_alloc | apply pw_below_drewN | apply below_drew1) | exact HB.out))) : w.heap.size ≤ gb177)); clear HB; have HB := n0_; have BK177 := n1_; have GW177 := n2_; have GE177 := n3_; clear n0_ n1_ n2_ n3_; clear hb hbox hg; have hczx9eac1 : wx9eac1.cell? ⟨gb177, 0, none⟩ = some (.int .i64 0) := (blk_cell BK177.out 0).trans rfl; have hczx9eac2 : wx9eac1.cell? ⟨gb177, 1, none⟩ = some (.int .i64 0) := (blk_cell BK177.out 1).trans rfl; have hfzx9eac1 := blk_frozen BK177.out 0; have hfzx9eac2 := blk_frozen BK177.out 1))
            go_ret
            exact ⟨by first | rfl | (simp [errW_none, errW_some] <;> rfl) | (simp [*, errW_none, errW_some] <;> rfl), by repeat (first | (with_reducible first | exact HB.out | apply below_alloc | apply pw_below_drewN | apply below_drew1 | refine below_set ?_ GE177.out) | exact HB.out)⟩
          | clear hm1_2
            go_wp2
            go_ret
            exact ⟨by first | rfl | (simp [errW_none, errW_some] <;> rfl) | (simp [*, errW_none, errW_some] <;> rfl), by repeat (first | (with_reducible first | exact HB.out | apply below_alloc | apply pw_below_drewN | apply below_drew1) | exact HB.out)⟩
       | clear hm1_1
         have H' := Aside0.mk H
         clear H
         have p176 : 0 ≤ (x10_1 : Int) := of_decide_eq_true (by first | (with_reducible assumption) | assumption)
         have q176 : x10_1 < (l0.length : Int) := of_decide_eq_true (by first | (with_reducible assumption) | assumption)
         obtain ⟨ad176, e176, hx176_0, hx176_1⟩ := at_T58 HR0.out x10_1 p176 q176
         cases e176
         replace hx176_0 := (HB.out.cell (World.block_lt_of_cell? w _ hx176_0)).trans hx176_0
         replace hx176_1 := (HB.out.cell (World.block_lt_of_cell? w _ hx176_1)).trans hx176_1
         replace p176 := eq_true p176
         replace q176 := eq_true q176
         go_wp2_with (first | ((with_reducible refine gate_dst (N := 4) rfl ?_); refine box_event ?hg (N := 4) ?hd (cs := #[.int .i64 0, .int .i64 0]) (t := 58) ?hr ?_; (case hd => rfl); (case hg => rfl); (case hr => first | (go_simp; done) | (go_simp; rfl)); intro gb177 hg wx9eac1 hbox hb; have n0_ := Aside0.mk (below_step (by repeat (first | (with_reducible first | exact HB.out | apply below_alloc | apply pw_below_drewN | apply below_drew1) | exact HB.out)) hb); have n1_ := Aside0.mk (hbox); have n2_ := Aside0.mk ((by rw [hg]; exact (below_size (by repeat (first | (with_reducible first | exact HB.out | apply below_alloc | apply pw_below_drewN | apply below_drew1) | exact HB.out))) : w.heap.size ≤ gb177)); have n3_ := Aside0.mk ((by rw [hg]; exact (below_size (by repeat (first | (with_reducible first | exact HB.out | apply below_alloc | apply pw_below_drewN | apply below_drew1) | exact HB.out))) : w.heap.size ≤ gb177)); clear HB; have HB := n0_; have BK177 := n1_; have GW177 := n2_; have GE177 := n3_; clear n0_ n1_ n2_ n3_; clear hb hbox hg; have hczx9eac1 : wx9eac1.cell? ⟨gb177, 0, none⟩ = some (.int .i64 0) := (blk_cell BK177.out 0).trans rfl; have hczx9eac2 : wx9eac1.cell? ⟨gb177, 1, none⟩ = some (.int .i64 0) := (blk_cell BK177.out 1).trans rfl; have hfzx9eac1 := blk_frozen BK177.out 0; have hfzx9eac2 := blk_frozen BK177.out 1))
         go_roundg k1
         case measure => have := HK1.out; omega
         case rel => exact ⟨(wrap64 (x10_1 + 1)), (by first | rfl | (simp; done) | (simp [*]; done)), H', ⟨by have := HK1.out; omega⟩, ⟨by repeat (first | (with_reducible first | exact HB.out | apply below_alloc | apply pw_below_drewN | apply below_drew1 | refine below_set ?_ GE177.out) | exact HB.out)⟩⟩

/-! ### api_Span_60: function 60 -/
def api_Span_60.f (l0 : List (S58)) : Option ((List (S58))) := (some (([] : List (S58)) : List (S58))).bind fun y178 => (if y178.length + l0.length < 8796093022208 then (some (y178 ++ l0)) else (none))
theorem api_Span_60.nil_ (A_ : Option Addr) (n_ c_ : Nat) (w_ : World) : (binOp .eql 53 (.slice A_ n_ c_) (.slice none 0 0)).run Try.prog w_ = .ok (.bool A_.isNone) w_ := by
  have hu := Try.underlying53
  have hd : Op.maxDepth = (Op.maxDepth - 1) + 1 := rfl
  cases A_ <;> (simp only [binOp, Op.equal]; rw [hd]; simp [Op.equalIn, Sem.run_bind, run_underlying hu])
attribute [local go_sem high] api_Span_60.nil_
set_option maxHeartbeats 8000000 in
set_option maxRecDepth 100000 in
theorem api_Span_60.calls (A0 : Option Addr) (c0 : Nat) (l0 : List (S58)) (r : List (S58)) (w : World) (hr0 : Kd.C k58 w A0 l0.length l0) (hc0 : l0.length ≤ c0) (h : api_Span_60.f l0 = some r) :
    Calls Try.prog 60 #[.slice A0 l0.length c0] w fun e w' => ∃ v0_ : Value, e = .returned (v0_) ∧ Kd.R k58 58 w' w.heap.size (fun _ => True) v0_ r ∧ Below w.heap.size w w' := by
  have hu_ := Try.underlying53
  obtain rfl | ⟨ad0_, hA0_⟩ : A0 = none ∨ ∃ ad_, A0 = some ad_ := by
    cases A0 with
    | none => exact Or.inl rfl
    | some a_ => exact Or.inr ⟨a_, rfl⟩
  · have hl0_ : l0 = [] := by
      cases l0 with
      | nil => rfl
      | cons x_ xs_ => obtain ⟨ad_, e_, _⟩ := at_T58 hr0 0 (by decide) (by simp <;> omega); cases e_
    subst hl0_
    have hr_ : r = [] := by
      unfold api_Span_60.f at h
      simpa using h.symm
    subst hr_
    go_enter Try.func60, Try.ntmps60
    try go_wp2
    go_ret
    exact ⟨_, rfl, Kd.R_nil _ _ _ _ _, Below.refl _ _⟩
  · subst hA0_
    have HR0 := Aside0.mk hr0
    have HC0 := Aside0.mk hc0
    clear hr0 hc0
    have HB := Aside0.mk (Below.refl w.heap.size w)
    have H : ((some (([] : List (S58)) : List (S58))).bind fun y178 => (if y178.length + l0.length < 8796093022208 then (some (y178 ++ l0)) else (none))) = some r := h
    clear h
    obtain ⟨y178, hy178⟩ : ∃ y_ : List (S58), y_ = (([] : List (S58))) := ⟨_, rfl⟩
    replace H : (if y178.length + l0.length < 8796093022208 then (some (y178 ++ l0)) else (none)) = some r := by first | (rw [hy178]; with_reducible exact H) | (have H2_ := (Option.bind_some _ _).symm.trans H; rw [hy178]; with_reducible exact H2_) | (have H2_ := (Option.bind_some _ _).symm.trans H; with_reducible exact H2_) | with_reducible exact H | (rw [hy178]; exact H) | exact H
    have Ny178 := Aside0.mk hy178
    clear hy178
    by_cases c2 : y178.length + l0.length < 8796093022208
    · rw [if_pos c2] at H
      have LMc2 := Aside0.mk c2
      clear c2
      obtain ⟨y181, hy181⟩ : ∃ y_ : List (S58), y_ = (y178 ++ l0) := ⟨_, rfl⟩
      replace H : (some y181) = some r := by first | (rw [hy181]; with_reducible exact H) | (have H2_ := (Option.bind_some _ _).symm.trans H; rw [hy181]; with_reducible exact H2_) | (have H2_ := (Option.bind_some _ _).symm.trans H; with_reducible exact H2_) | with_reducible exact H | (rw [hy181]; exact H) | exact H
      have Ny181 := Aside0.mk hy181
      clear hy181
      obtain rfl := Option.some.inj H
      go_enter Try.func60, Try.ntmps60
      go_wp2_with (first | ((with_reducible refine gate_dst (N := 5) rfl ?_); refine Kd.R_lit k58 _ 58 ?hg (N := 5) ?hd (xs := ([] : List (S58))) (inner := []) (ok := fun _ => True) (okp := fun _ => True) ?hr ?hp (fun _ hk => hk) trivial (Below.refl _ _) (Nat.le_refl _) (by simp) ?_; (case hd => rfl); (case hg => rfl); (case hr => first | (go_simp; done) | (go_simp; rfl)); (case hp => exact (Reps.none _ _)); intro v179 w3 ho4 hb hg_ hnew_; clear hg_ hnew_; (first | rw [← Ny178.out] at ho4 | (simp only [Int.reduceToNat] at ho4; rw [← Ny178.out] at ho4)); have n0_ := Aside0.mk (Kd.R_lower ho4 (below_size (by repeat (first | (with_reducible first | exact HB.out | apply below_alloc | apply pw_below_drewN | apply below_drew1) | exact HB.out)))); have n1_ := Aside0.mk (below_step (by repeat (first | (with_reducible first | exact HB.out | apply below_alloc | apply pw_below_drewN | apply below_drew1) | exact HB.out)) hb); clear HB; have HO180 := n0_; have HB := n1_; clear n0_ n1_; clear hb ho4) | ((with_reducible refine gate_builtin (b := .append) (xs := #[.tmp 5, .tmp 6]) rfl ?_); at_builtin; refine Kd.R_append_rows k58 (w0 := w) w.heap.size rfl (.tmp 5) (.tmp 6) 53 58 (.agg #[(.int .i64 0), (.int .i64 0)]) 16 rfl Try.underlying53 info58 rfl (by decide) (by omega) v179 y178 l0 _ _ _ (fun _ => True) (fun _ => False) rfl rfl ?aO ?aR (fun _ _ h => h) (fun _ h => h.elim) ?aF ?aB ?aS ?aL ?_; (case aR => repeat (first | exact (Kd.C_below HR0.out HB.out) | (with_reducible refine Kd.C_alloc ?_ _) | (with_reducible refine Kd.C_drewN ?_ _) | (with_reducible refine Kd.C_drew ?_))); (case aB => exact (by repeat (first | (with_reducible first | exact HB.out | apply below_alloc | apply pw_below_drewN | apply below_drew1) | exact HB.out))); (case aF => exact (fun _ _ => trivial)); (case aO => exact (by (with_reducible repeat (first | apply Kd.R_alloc | apply Kd.R_drewN | apply Kd.R_drew)); exact HO180.out)); (case aS => exact (below_size (by repeat (first | (with_reducible first | exact HB.out | apply below_alloc | apply pw_below_drewN | apply below_drew1) | exact HB.out)))); (case aL => have := LMc2.out; omega); intro v182 w5 ho hb hg hat; rw [← Ny181.out] at ho; have n0_ := Aside0.mk (hb); have n1_ := Aside0.mk (ho); clear HB; clear HO180; have HB := n0_; have HO183 := n1_; clear n0_ n1_; clear ho hb hg hat))
      go_ret
      exact ⟨_, by first | rfl | (simp [errW_none, errW_some] <;> rfl) | (simp [*, errW_none, errW_some] <;> rfl), by (with_reducible repeat (first | apply Kd.R_alloc | apply Kd.R_drewN | apply Kd.R_drew)); exact HO183.out, by repeat (first | (with_reducible first | exact HB.out | apply below_alloc | apply pw_below_drewN | apply below_drew1) | exact HB.out)⟩
    · rw [if_neg c2] at H
      exact absurd H (by simp)

/-! ### api_Span_61: function 61 -/
section
open Go.Shelf Go.Lib Go.Sort
/-- An interval whose beginning is a small number. -/
abbrev SpB : Type := { x : S58 // 0 ≤ x.f0 ∧ x.f0 ≤ 1000000 }
instance : Inhabited SpB := ⟨⟨⟨0, 0⟩, by decide⟩⟩
def encS (x : SpB) : List Value := [.int .i64 x.1.f0, .int .i64 x.1.f1]
def cfS (x y : SpB) : Int := x.1.f0 - y.1.f0
theorem ltS (x y : SpB) : ltOf cfS x y = decide (x.1.f0 < y.1.f0) := by
  unfold ltOf cfS
  by_cases h : x.1.f0 < y.1.f0
  · rw [decide_eq_true h, decide_eq_true (by omega)]
  · rw [decide_eq_false h, decide_eq_false (by omega)]
theorem swoS : SWO (ltOf cfS) where
  irrefl x := by rw [ltS]; simp
  trans x y z h1 h2 := by rw [ltS] at *; simp at *; omega
  ntrans x y z h1 h2 := by rw [ltS] at *; simp at *; omega
def okAll (l : List S58) : Bool := decide (l.length ≤ 1000000) && l.all fun x => decide (0 ≤ x.f0 ∧ x.f0 ≤ 1000000)
theorem okAll_mem {l : List S58} (h : okAll l = true) : ∀ x ∈ l, 0 ≤ x.f0 ∧ x.f0 ≤ 1000000 := by
  unfold okAll at h
  rw [Bool.and_eq_true] at h
  intro x hx
  exact of_decide_eq_true (List.all_eq_true.1 h.2 x hx)
theorem okAll_len {l : List S58} (h : okAll l = true) : l.length ≤ 1000000 := by
  unfold okAll at h
  rw [Bool.and_eq_true] at h
  exact of_decide_eq_true h.1
def liftS (l : List S58) (h : okAll l = true) : Array SpB := (l.pmap (fun x hx => (⟨x, hx⟩ : SpB)) (okAll_mem h)).toArray
/-- What the row holds, sorted. -/
def sortS (l : List S58) (h : okAll l = true) : Array SpB := pdq (ltOf cfS) (liftS l h) 0 (liftS l h).size (Lib.bitLen (liftS l h).size) true true
theorem liftS_size (l : List S58) (h : okAll l = true) : (liftS l h).size = l.length := by unfold liftS; rw [List.size_toArray]; exact List.length_pmap
theorem sortS_spec (l : List S58) (h : okAll l = true) : PermIn 0 (liftS l h).size (liftS l h) (sortS l h) ∧ SortedIn (ltOf cfS) 0 (liftS l h).size (sortS l h) :=
  pdq_sorts (ltOf cfS) swoS (liftS l h) 0 (liftS l h).size (Lib.bitLen (liftS l h).size) true true (Nat.zero_le _) (Nat.le_refl _) (Or.inl rfl)
set_option maxHeartbeats 1000000 in
theorem closureS (x y : SpB) (W : World) : Calls Try.prog 62 #[.agg #[.int .i64 x.1.f0, .int .i64 x.1.f1], .agg #[.int .i64 y.1.f0, .int .i64 y.1.f1]] W fun e w' => e = .returned (.int .i64 (cfS x y)) ∧ ∃ q os', w' = grow (W.drewN q) os' := by
  have hw : IntKind.i64.wrap (x.1.f0 - y.1.f0) = cfS x y := by
    have := x.2
    have := y.2
    rw [IntKind.wrap_i64]
    unfold cfS
    omega
  generalize cfS x y = r at hw ⊢
  go_enter Try.func62, Try.ntmps62
  go_wp2
  go_ret
  exact ⟨by simp, 0, _, by rw [alloc_eq_grow, alloc_eq_grow, grow_grow]; rfl⟩
theorem laysS (blk off size : Nat) (w : World) : CmpLays Try.prog 62 #[] encS 2 cfS blk off size w := fun _ _ _ _ x y => closureS x y _
theorem sort_calls (blk cap : Nat) (d : Array SpB) (w : World) (hH : HoldsK encS 2 w blk 0 d) (hblk : blk < w.heap.size) (hsz : d.size < 4611686018427387904) :
    Calls Try.prog 61 #[.slice (some ⟨blk, 0, none⟩) d.size cap, .func (.func 62) #[] #[]] w fun e w' => e = .returned (.tuple #[]) ∧ ∃ n os, w' = sortWorldK encS 2 w blk 0 n (pdq (ltOf cfS) d 0 d.size (Lib.bitLen d.size) true true) os := by
  have eg : ∀ args w, (callFunc 62 args).run Try.prog w = .ok (.enter 62 args) w := enters_of Try.func62 (by kernel_rfl) rfl
  have hcon := AnyQ.slices_SortFunc_eq Try.spanSort 2 Try.isAgg58 Try.sizeOf58 encS (fun _ => rfl) (fun x v hv => by simp [encS] at hv; rcases hv with rfl | rfl <;> rfl) cfS swoS 62 #[] blk 0 cap d w eg (laysS blk 0 d.size w) hH hblk hsz
  exact hcon
/-- The list that the sort leaves. -/
def sortedS (l : List S58) (h : okAll l = true) : List S58 := (sortS l h).toList.map (·.1)
theorem liftS_list (l : List S58) (h : okAll l = true) : (liftS l h).toList.map (·.1) = l := by
  unfold liftS
  rw [List.toList_toArray, List.map_pmap, List.pmap_eq_map, List.map_id']
theorem sortedS_perm (l : List S58) (h : okAll l = true) : (sortedS l h).Perm l := by
  have hp := (sortS_spec l h).1
  have hs := hp.1
  have h3 := hp.2.2
  rw [← hs, Array.extract_size, hs, Array.extract_size] at h3
  have := h3.map (·.1)
  rw [liftS_list] at this
  exact this
theorem sortedS_length (l : List S58) (h : okAll l = true) : (sortedS l h).length = l.length := (sortedS_perm l h).length_eq
theorem sortedS_sorted (l : List S58) (h : okAll l = true) : (sortedS l h).Pairwise fun x y => x.f0 ≤ y.f0 := by
  have hs := (sortS_spec l h).2
  have hz : (sortS l h).size = (liftS l h).size := (sortS_spec l h).1.1
  rw [List.pairwise_iff_getElem]
  intro i j hi hj hij
  unfold sortedS at hi hj
  rw [List.length_map, Array.length_toList] at hi hj
  have := hs i j (Nat.zero_le _) hij (by omega)
  rw [ltS, getElem!_pos _ i hi, getElem!_pos _ j hj] at this
  unfold sortedS
  rw [List.getElem_map, List.getElem_map, Array.getElem_toList, Array.getElem_toList]
  have := of_decide_eq_false this
  omega
def flatS (l : List S58) : List Value := l.flatMap fun x => [.int .i64 x.f0, .int .i64 x.f1]
theorem flatS_length (l : List S58) : (flatS l).length = l.length * 2 := by
  unfold flatS
  induction l with
  | nil => rfl
  | cons x l ih => rw [List.flatMap_cons, List.length_append, ih]; simp; omega
theorem flatS_at (l : List S58) : ∀ q x, l[q]? = some x → ((flatS l).drop (q * 2)).take 2 = [.int .i64 x.f0, .int .i64 x.f1] := by
  unfold flatS
  induction l with
  | nil => intro q x h; simp at h
  | cons y l ih =>
    intro q x h
    cases q with
    | zero => obtain rfl : y = x := by simpa using h
              rfl
    | succ q =>
      rw [List.flatMap_cons, show (q + 1) * 2 = 2 + q * 2 by omega, ← List.drop_drop]
      exact ih q x (by simpa using h)
theorem list_pairs {a b : List Value} {n : Nat} (ha : a.length = n * 2) (hb : b.length = n * 2) (h : ∀ q, q < n → (a.drop (q * 2)).take 2 = (b.drop (q * 2)).take 2) : a = b := by
  apply List.ext_getElem?
  intro t
  by_cases ht : t < n * 2
  · have e : ∀ c : List Value, c[t]? = ((c.drop (t / 2 * 2)).take 2)[t % 2]? := fun c => by
      rw [List.getElem?_take_of_lt (by omega), List.getElem?_drop, show t / 2 * 2 + t % 2 = t by omega]
    rw [e a, e b, h (t / 2) (by omega)]
  · rw [List.getElem?_eq_none (by omega), List.getElem?_eq_none (by omega)]
theorem flatK_list (d : Array SpB) : (flatK encS 2 d).toList = flatS (d.toList.map (·.1)) := by
  refine list_pairs (n := d.size) (by simp) (by rw [flatS_length, List.length_map, Array.length_toList]) fun q hq => ?_
  rw [flatS_at _ q d[q].1 (by rw [List.getElem?_map, Array.getElem?_toList, Array.getElem?_eq_getElem hq]; rfl)]
  apply List.ext_getElem?
  intro t
  have hsz : (flatK encS 2 d).size = d.size * 2 := size_flatK _ _ _
  by_cases ht : t < 2
  · rw [List.getElem?_take_of_lt ht, List.getElem?_drop, Array.getElem?_toList, Array.getElem?_eq_getElem (by omega), ← getElem!_pos _ (q * 2 + t) (by omega), get_flatK _ _ _ _ (by omega), show (q * 2 + t) / 2 = q by omega, show (q * 2 + t) % 2 = t by omega, getElem!_pos d q hq]
    rcases t with _ | _ | t
    · rfl
    · rfl
    · omega
  · rw [List.getElem?_eq_none (by simp; omega), List.getElem?_eq_none (by simp; omega)]
theorem heap_sortedK {w : World} {g n : Nat} {os : Array Obj} {cur : Array Value} {e : TypeId} {fr : Nat × Nat} (d : Array SpB) (hb : w.heap[g]? = some (.cells cur e fr)) :
    (sortWorldK encS 2 w g 0 n d os).heap[g]? = some (.cells (putCells id 0 (flatK encS 2 d) cur) e fr) := by
  have hg : g < w.heap.size := (Array.getElem?_eq_some_iff.1 hb).1
  unfold sortWorldK putRowK
  rw [heap_grow_old _ _ (by simpa using hg)]
  simp [putRow, mapBlock, Sort.ahead, Array.getElem?_modify, hb, onCells]
theorem grownBy_sortedK {w : World} {g n : Nat} {os : Array Obj} (d : Array SpB) : w.grownBy (sortWorldK encS 2 w g 0 n d os) (some g) := by
  refine ⟨rfl, rfl, rfl, by simp [sortWorldK, putRowK], fun k hk hne => ?_⟩
  unfold sortWorldK putRowK
  rw [heap_grow_old _ _ (by simpa using hk)]
  have : g ≠ k := fun e => hne (by rw [e])
  simp [putRow, mapBlock, Sort.ahead, Array.getElem?_modify, this]
theorem take_putCellsK (cur F : Array Value) (h : F.size ≤ cur.size) : (putCells id 0 F cur).toList.take F.size = F.toList := by
  apply List.ext_getElem?
  intro j
  by_cases hj : j < F.size
  · rw [List.getElem?_take_of_lt hj, Array.getElem?_toList]
    simp [putCells, hj, show j < cur.size by omega]
  · rw [List.getElem?_take_eq_none (by omega), List.getElem?_eq_none (by simp; omega)]
theorem sort_kd {w : World} {base : Nat} {ok : Nat → Prop} {v : Value} {l : List S58} (h : okAll l = true) (ho : Kd.R k58 58 w base ok v l) :
    Calls Try.prog 61 #[v, .func (.func 62) #[] #[]] w fun e w' => e = .returned (.tuple #[]) ∧ w.grownBy w' v.ownBlock ∧ Kd.R k58 58 w' base ok v (sortedS l h) := by
  obtain ⟨hok, inner, ⟨hil, hown⟩, hil2, hreps⟩ := ho
  have hsz2 : k58.sz = 2 := rfl
  rw [hsz2] at hil hown hil2 hreps
  have hin : inner = flatS l := by
    refine list_pairs hil (flatS_length l) fun q hq => ?_
    rw [flatS_at l q l[q] (List.getElem?_eq_getElem hq)]
    exact k58_openM (hreps q l[q] (List.getElem?_eq_getElem hq))
  subst hin
  rcases hown with ⟨rfl, hn⟩ | ⟨g, cap, cur, rfl, hbg, hb, hcap, hmax, hsz, htake⟩
  · obtain rfl : l = [] := List.eq_nil_of_length_eq_zero hn
    have hs : sortedS [] h = [] := List.eq_nil_of_length_eq_zero (by rw [sortedS_length]; rfl)
    rw [hs]
    refine (AnyF.slices_SortFunc_none Try.spanSort none 0 _ w).mono ?_
    rintro e w' ⟨rfl, rfl⟩
    exact ⟨rfl, World.grownBy.refl _ _, hok, [], own_nil _ _ _ _, Reps.none _ _⟩
  · have hfl : (flatK encS 2 (liftS l h)).toList = flatS l := by rw [flatK_list, liftS_list]
    have hH : HoldsK encS 2 w g 0 (liftS l h) := by
      intro j hj
      refine ⟨?_, by simp [World.frozen?, hb]⟩
      rw [Nat.zero_add, blk_cell hb]
      have hj' : j < l.length * 2 := by rw [size_flatK, liftS_size] at hj; exact hj
      have h1 : (cur.toList.take (l.length * 2))[j]? = (flatK encS 2 (liftS l h)).toList[j]? := by rw [htake, hfl]
      rw [List.getElem?_take_of_lt hj', Array.getElem?_toList, Array.getElem?_toList, Array.getElem?_eq_getElem hj] at h1
      rw [h1, getElem!_pos _ j hj]
      rfl
    have hc := sort_calls g cap (liftS l h) w hH (blk_lt hb) (by have := okAll_len h; rw [liftS_size]; omega)
    rw [liftS_size] at hc
    refine hc.mono ?_
    rintro e w' ⟨rfl, n, os, rfl⟩
    have hS : pdq (ltOf cfS) (liftS l h) 0 l.length (Lib.bitLen l.length) true true = sortS l h := by unfold sortS; rw [liftS_size]
    rw [hS]
    have hsl := sortedS_length l h
    have hf2 : (flatK encS 2 (sortS l h)).toList = flatS (sortedS l h) := flatK_list _
    have hf3 : (flatK encS 2 (sortS l h)).size = l.length * 2 := by rw [← Array.length_toList, hf2, flatS_length, hsl]
    have htk := take_putCellsK cur (flatK encS 2 (sortS l h)) (by rw [hf3, hsz]; omega)
    refine ⟨rfl, grownBy_sortedK _, hok, flatS (sortedS l h), ⟨by rw [flatS_length]; rfl, .inr ⟨g, cap, _, by rw [hsl], hbg, heap_sortedK _ hb, by omega, hmax, by simp [putCells, hsz]; rfl, ?_⟩⟩, by rw [flatS_length]; rfl, fun q x hq => ?_⟩
    · rw [hsl, hsz2, ← hf3, htk, hf2]
    · rw [hsz2, flatS_at _ q x hq]
      exact k58_mkM _ _ _ _
def api_Span_61.f (l0 : List S58) (_ : Unit) : Option (List S58) := if h : okAll l0 = true then some (sortedS l0 h) else none
theorem api_Span_61.calls (P0_ : Nat → Prop) (u9000_ : Value) (l0 : List S58) (u_ : Unit) (r : List S58) (w0 w : World) (hB : Below w0.heap.size w0 w) (ho0 : Kd.R k58 58 w w0.heap.size P0_ u9000_ l0) (h : api_Span_61.f l0 u_ = some r) :
    Calls Try.prog 61 #[u9000_, .func (.func 62) #[] #[]] w fun e w' => e = .returned (.tuple #[]) ∧ Kd.R k58 58 w' w0.heap.size (fun k_ => (P0_ k_ ∨ w.heap.size ≤ k_)) u9000_ r ∧ Below w0.heap.size w0 w' ∧ Kept w w' (fun k_ => P0_ k_) := by
  unfold api_Span_61.f at h
  by_cases hk : okAll l0 = true
  · rw [dif_pos hk] at h
    obtain rfl := Option.some.inj h
    refine (sort_kd hk ho0).mono ?_
    rintro e w' ⟨rfl, hg, hr⟩
    exact ⟨rfl, Kd.R_mono hr (fun _ h => .inl h), hB.grown hg hB.size (fun k hk => Kd.R_base ho0 k hk), Kept.of_grown hg (Kept.refl _ _) (fun k hk => .inl (ho0.1 k hk))⟩
  · rw [dif_neg hk] at h; cases h
end

/-! ### volume_Union_1: function 62 -/
def volume_Union_1.f (a0_0 : Int) (a0_1 : Int) (a1_0 : Int) (a1_1 : Int) : Option (Int) := some (wrap64 (a0_0 - a1_0))
set_option maxHeartbeats 8000000 in
set_option maxRecDepth 100000 in
theorem volume_Union_1.calls (a0_0 : Int) (a0_1 : Int) (a1_0 : Int) (a1_1 : Int) (r : Int) (w : World) (h : volume_Union_1.f a0_0 a0_1 a1_0 a1_1 = some r) :
    Calls Try.prog 62 #[.agg #[.int .i64 a0_0, .int .i64 a0_1], .agg #[.int .i64 a1_0, .int .i64 a1_1]] w fun e w' => e = .returned (.int .i64 r) ∧ Below w.heap.size w w' := by
 have hu58 := Try.underlying58
 have HB := Aside0.mk (Below.refl w.heap.size w)
 have H : (some (wrap64 (a0_0 - a1_0))) = some r := h
 clear h
 obtain rfl := Option.some.inj H
 go_enter Try.func62, Try.ntmps62
 go_wp2_with (first | ((with_reducible refine gate_dst (N := 2) rfl ?_); refine box_event ?hg (N := 2) ?hd (cs := #[.int .i64 a0_0, .int .i64 a0_1]) (t := 58) ?hr ?_; (case hd => rfl); (case hg => rfl); (case hr => first | (go_simp; done) | (go_simp; rfl)); intro gb184 hg w3 hbox hb; have n0_ := Aside0.mk (below_step (by repeat (first | (with_reducible first | exact HB.out | apply below_alloc | apply pw_below_drewN | apply below_drew1) | exact HB.out)) hb); have n1_ := Aside0.mk (hbox); have n2_ := Aside0.mk ((by rw [hg]; exact (below_size (by repeat (first | (with_reducible first | exact HB.out | apply below_alloc | apply pw_below_drewN | apply below_drew1) | exact HB.out))) : w.heap.size ≤ gb184)); have n3_ := Aside0.mk ((by rw [hg]; exact (below_size (by repeat (first | (with_reducible first | exact HB.out | apply below_alloc | apply pw_below_drewN | apply below_drew1) | exact HB.out))) : w.heap.size ≤ gb184)); clear HB; have HB := n0_; have BK184 := n1_; have GW184 := n2_; have GE184 := n3_; clear n0_ n1_ n2_ n3_; clear hb hbox hg) | ((with_reducible refine gate_dst (N := 3) rfl ?_); refine box_event ?hg (N := 3) ?hd (cs := #[.int .i64 a1_0, .int .i64 a1_1]) (t := 58) ?hr ?_; (case hd => rfl); (case hg => rfl); (case hr => first | (go_simp; done) | (go_simp; rfl)); intro gb185 hg w4 hbox hb; have n0_ := Aside0.mk (blk_below (g := gb184) (o := .cells #[.int .i64 a0_0, .int .i64 a0_1] 58 (0, 0)) (by (with_reducible repeat (first | refine blk_drewN ?_ _ | refine blk_drew ?_ | refine blk_alloc ?_ _)); exact BK184.out) hb); have n1_ := Aside0.mk (below_step (by repeat (first | (with_reducible first | exact HB.out | apply below_alloc | apply pw_below_drewN | apply below_drew1 | refine below_set ?_ GE184.out) | exact HB.out)) hb); have n2_ := Aside0.mk (hbox); have n3_ := Aside0.mk ((by rw [hg]; exact (below_size (by repeat (first | (with_reducible first | exact HB.out | apply below_alloc | apply pw_below_drewN | apply below_drew1 | refine below_set ?_ GE184.out) | exact HB.out))) : w.heap.size ≤ gb185)); have n4_ := Aside0.mk ((by rw [hg]; exact (below_size (by repeat (first | (with_reducible first | exact HB.out | apply below_alloc | apply pw_below_drewN | apply below_drew1 | refine below_set ?_ GE184.out) | exact HB.out))) : w.heap.size ≤ gb185)); have n5_ := Aside0.mk ((by rw [hg]; exact Nat.ne_of_lt (blk_lt (g := gb184) (o := .cells #[.int .i64 a0_0, .int .i64 a0_1] 58 (0, 0)) (by (with_reducible repeat (first | refine blk_drewN ?_ _ | refine blk_drew ?_ | refine blk_alloc ?_ _)); exact BK184.out)) : gb184 ≠ gb185)); have n6_ := Aside0.mk ((by rw [hg]; exact Nat.ne_of_gt (blk_lt (g := gb184) (o := .cells #[.int .i64 a0_0, .int .i64 a0_1] 58 (0, 0)) (by (with_reducible repeat (first | refine blk_drewN ?_ _ | refine blk_drew ?_ | refine blk_alloc ?_ _)); exact BK184.out)) : gb185 ≠ gb184)); clear BK184; clear HB; have BK184 := n0_; have HB := n1_; have BK185 := n2_; have GW185 := n3_; have GE185 := n4_; have NB184_185 := n5_; have NB185_184 := n6_; clear n0_ n1_ n2_ n3_ n4_ n5_ n6_; clear hb hbox hg; have hnb5 := NB184_185.out; have hnc5 := NB185_184.out; have hcz6_0 : w4.cell? ⟨gb184, 0, none⟩ = some (.int .i64 a0_0) := (blk_cell BK184.out 0).trans rfl; have hcz6_1 : w4.cell? ⟨gb184, 1, none⟩ = some (.int .i64 a0_1) := (blk_cell BK184.out 1).trans rfl; have hfz6_0 := blk_frozen BK184.out 0; have hfz6_1 := blk_frozen BK184.out 1; have hcz7_0 : w4.cell? ⟨gb185, 0, none⟩ = some (.int .i64 a1_0) := (blk_cell BK185.out 0).trans rfl; have hcz7_1 : w4.cell? ⟨gb185, 1, none⟩ = some (.int .i64 a1_1) := (blk_cell BK185.out 1).trans rfl; have hfz7_0 := blk_frozen BK185.out 0; have hfz7_1 := blk_frozen BK185.out 1))
 go_ret
 exact ⟨by first | rfl | (simp [errW_none, errW_some] <;> rfl) | (simp [*, errW_none, errW_some] <;> rfl), by repeat (first | (with_reducible first | exact HB.out | apply below_alloc | apply pw_below_drewN | apply below_drew1 | refine below_set ?_ GE184.out | refine below_set ?_ GE185.out) | exact HB.out)⟩

end Go.Proofs.Yteaddpieonkboaa.PVolumeHas
