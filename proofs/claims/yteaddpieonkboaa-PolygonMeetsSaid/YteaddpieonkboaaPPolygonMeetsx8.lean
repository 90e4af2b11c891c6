/- Made by a program of this session (wip/tools/myprint.py, over the kit's printer): that the Go functions answer as the Lean functions printed beside them. -/
import Derived.Test.YteaddpieonkboaaPPolygonMeetsx0
import Derived.Test.YteaddpieonkboaaPPolygonMeetsx2
import Derived.Test.YteaddpieonkboaaPPolygonMeetsx3
import Derived.Test.YteaddpieonkboaaPPolygonMeetsx4
import Derived.Test.YteaddpieonkboaaPPolygonMeetsx5
namespace Go.Proofs.Yteaddpieonkboaa.PPolygonMeets
open Go.RowKit Go.Proofs.YteaddpieonkboaaW.PrintWords Go.Proofs.YteaddpieonkboaaW.PrintLast Go.Proofs.YteaddpieonkboaaW.PrintMore
attribute [local go_sem] max2_int min2_int max_two min_two max_three min_three max_four min_four   -- for this text's walks alone
set_option linter.unusedVariables false
set_option linter.unusedSimpArgs false

/-! ### polygon_Meets: function 24 -/
mutual
def polygon_Meets.l0 : Nat → List (S25) → List (S25) → Int → Int → Int → Int → Int → Int → Option (Bool × Int)
  | 0, _, _, _, _, _, _, _, _ => none
  | k + 1, x0, x21, x22, x23, x226000, x226001, x227000, x227001 => if x23 < x22 then (if 0 ≤ x23 then (if x23 < (x21.length : Int) then ((plane_Check.f ((rd_T25 x21 x23).f0) ((rd_T25 x21 x23).f1)).bind fun t233 => (if t233 = 0 then (polygon_Meets.l0 k x0 x21 x22 (wrap64 (x23 + 1)) x226000 x226001 x227000 x227001) else (some (false, t233)))) else (none)) else (none)) else ((polygon_locate.f k x0 x226000 x226001).bind fun t234 => (if t234 ≥ 0 then (some (true, 0)) else (polygon_Meets.l1 k x0 x0 (x0.length : Int) 0 x226000 x226001 x227000 x227001)))
def polygon_Meets.l1 : Nat → List (S25) → List (S25) → Int → Int → Int → Int → Int → Int → Option (Bool × Int)
  | 0, _, _, _, _, _, _, _, _ => none
  | k + 1, x0, x37, x38, x39, x226000, x226001, x227000, x227001 => if x39 < x38 then (if 0 ≤ x39 then (if x39 < (x37.length : Int) then (if (x0.length : Int) = 0 then (none) else (if 0 ≤ (Int.tmod (wrap64 ((wrap64 (x39 + (x0.length : Int))) - 1)) (x0.length : Int)) then (if (Int.tmod (wrap64 ((wrap64 (x39 + (x0.length : Int))) - 1)) (x0.length : Int)) < (x0.length : Int) then ((polygon_Common.f k x226000 x226001 x227000 x227001 ((rd_T25 x0 (Int.tmod (wrap64 ((wrap64 (x39 + (x0.length : Int))) - 1)) (x0.length : Int))).f0) ((rd_T25 x0 (Int.tmod (wrap64 ((wrap64 (x39 + (x0.length : Int))) - 1)) (x0.length : Int))).f1) ((rd_T25 x37 x39).f0) ((rd_T25 x37 x39).f1)).bind fun t238 => (if t238 = true then (some (true, 0)) else (polygon_Meets.l1 k x0 x37 x38 (wrap64 (x39 + 1)) x226000 x226001 x227000 x227001))) else (none)) else (none))) else (none)) else (none)) else (some (false, 0))
end
def polygon_Meets.f (k : Nat) (l0 : List (S25)) (a1_0 : Int) (a1_1 : Int) (a2_0 : Int) (a2_1 : Int) : Option (Bool × Int) := (polygon_Check.f k l0).bind fun t227 => (if t227 = 0 then ((some (([(⟨a1_0, a1_1⟩ : S25), (⟨a2_0, a2_1⟩ : S25)] : List (S25)) : List (S25))).bind fun y228 => (polygon_Meets.l0 k l0 y228 (y228.length : Int) 0 a1_0 a1_1 a2_0 a2_1)) else (some (false, t227)))
theorem polygon_Meets.mono_l : ∀ k, (∀ y0 y1 y2 y3 y4 y5 y6 y7, LeO (polygon_Meets.l0 k y0 y1 y2 y3 y4 y5 y6 y7) (polygon_Meets.l0 (k + 1) y0 y1 y2 y3 y4 y5 y6 y7)) ∧ (∀ y0 y1 y2 y3 y4 y5 y6 y7, LeO (polygon_Meets.l1 k y0 y1 y2 y3 y4 y5 y6 y7) (polygon_Meets.l1 (k + 1) y0 y1 y2 y3 y4 y5 y6 y7))
  | 0 => ⟨fun _ _ _ _ _ _ _ _ r h => by simp [polygon_Meets.l0] at h, fun _ _ _ _ _ _ _ _ r h => by simp [polygon_Meets.l1] at h⟩
  | k + 1 => by
    obtain ⟨ih0, ih1⟩ := polygon_Meets.mono_l k
    refine ⟨?_, ?_⟩
    · intro y0 y1 y2 y3 y4 y5 y6 y7
      unfold polygon_Meets.l0
      repeat' first
      | (with_reducible exact ih0 _ _ _ _ _ _ _ _)
      | (with_reducible exact ih1 _ _ _ _ _ _ _ _)
      | (with_reducible exact polygon_Check.mono _ _)
      | (with_reducible exact polygon_Common.mono _ _ _ _ _ _ _ _ _)
      | (with_reducible exact polygon_locate.mono _ _ _ _)
      | (with_reducible exact LeO.refl _)
      | (with_reducible exact LeO.none _)
      | (with_reducible refine LeO.ite ?_ ?_)
      | (with_reducible refine LeO.bind ?_ (fun _ => ?_))
      | exact ih0 _ _ _ _ _ _ _ _
      | exact ih1 _ _ _ _ _ _ _ _
      | exact polygon_Check.mono _ _
      | exact polygon_Common.mono _ _ _ _ _ _ _ _ _
      | exact polygon_locate.mono _ _ _ _
      | exact LeO.none _
      | refine LeO.ite ?_ ?_
      | refine LeO.bind ?_ (fun _ => ?_)
    · intro y0 y1 y2 y3 y4 y5 y6 y7
      unfold polygon_Meets.l1
      repeat' first
      | (with_reducible exact ih0 _ _ _ _ _ _ _ _)
      | (with_reducible exact ih1 _ _ _ _ _ _ _ _)
      | (with_reducible exact polygon_Check.mono _ _)
      | (with_reducible exact polygon_Common.mono _ _ _ _ _ _ _ _ _)
      | (with_reducible exact polygon_locate.mono _ _ _ _)
      | (with_reducible exact LeO.refl _)
      | (with_reducible exact LeO.none _)
      | (with_reducible refine LeO.ite ?_ ?_)
      | (with_reducible refine LeO.bind ?_ (fun _ => ?_))
      | exact ih0 _ _ _ _ _ _ _ _
      | exact ih1 _ _ _ _ _ _ _ _
      | exact polygon_Check.mono _ _
      | exact polygon_Common.mono _ _ _ _ _ _ _ _ _
      | exact polygon_locate.mono _ _ _ _
      | exact LeO.none _
      | refine LeO.ite ?_ ?_
      | refine LeO.bind ?_ (fun _ => ?_)
theorem polygon_Meets.mono : ∀ a0 a1 a2 a3 a4 k, LeO (polygon_Meets.f k a0 a1 a2 a3 a4) (polygon_Meets.f (k + 1) a0 a1 a2 a3 a4) := by
  intro a0 a1 a2 a3 a4 k
  obtain ⟨ih0, ih1⟩ := polygon_Meets.mono_l k
  unfold polygon_Meets.f
  repeat' first
      | (with_reducible exact ih0 _ _ _ _ _ _ _ _)
      | (with_reducible exact ih1 _ _ _ _ _ _ _ _)
      | (with_reducible exact polygon_Check.mono _ _)
      | (with_reducible exact polygon_Common.mono _ _ _ _ _ _ _ _ _)
      | (with_reducible exact polygon_locate.mono _ _ _ _)
      | (with_reducible exact LeO.refl _)
      | (with_reducible exact LeO.none _)
      | (with_reducible refine LeO.ite ?_ ?_)
      | (with_reducible refine LeO.bind ?_ (fun _ => ?_))
      | exact ih0 _ _ _ _ _ _ _ _
      | exact ih1 _ _ _ _ _ _ _ _
      | exact polygon_Check.mono _ _
      | exact polygon_Common.mono _ _ _ _ _ _ _ _ _
      | exact polygon_locate.mono _ _ _ _
      | exact LeO.none _
      | refine LeO.ite ?_ ?_
      | refine LeO.bind ?_ (fun _ => ?_)
def polygon_Meets.T16 : Bool × List (List Nat × List Nat) := (true, [([], []), ([], []), ([], []), ([], []), ([], []), ([4], [4]), ([3, 5], [3, 5]), ([6], [6]), ([], []), ([8], [8]), ([7, 9], [7, 9]), ([2, 10], [2, 10]), ([11], [11]), ([], []), ([0, 1, 12, 13], [0, 1, 12, 13])])
def polygon_Meets.B16 : List Nat := [0, 0, 0, 0, 0, 16, 56, 120, 0, 256, 1016, 2044, 4092, 0, 16383]
theorem polygon_Meets.tab16 : rtab .any (opsOf Try.f24 16) = polygon_Meets.T16 := by kernel_rfl
theorem polygon_Meets.bits16 : waitsOk polygon_Meets.T16.2 polygon_Meets.B16 = true := by kernel_rfl
set_option maxHeartbeats 8000000 in
set_option maxRecDepth 100000 in
theorem polygon_Meets.calls (k : Nat) (A0 : Option Addr) (c0 : Nat) (l0 : List (S25)) (a1_0 : Int) (a1_1 : Int) (a2_0 : Int) (a2_1 : Int) (r1 : Bool) (r2 : Int) (w : World) (hr0 : Kd.C k25 w A0 l0.length l0) (hc0 : l0.length ≤ c0) (h : polygon_Meets.f k l0 a1_0 a1_1 a2_0 a2_1 = some (r1, r2)) :
    Calls Try.prog 24 #[.slice A0 l0.length c0, .agg #[.int .i64 a1_0, .int .i64 a1_1], .agg #[.int .i64 a2_0, .int .i64 a2_1]] w fun e w' => e = .returned (.tuple #[.bool r1, .int .i64 r2]) ∧ Below w.heap.size w w' := by
 have hu25 := Try.underlying25
 have HR0 := Aside0.mk hr0; have HC0 := Aside0.mk hc0; clear hr0 hc0
 have HB := Aside0.mk (Below.refl w.heap.size w)
 have H : ((polygon_Check.f k l0).bind fun t227 => (if t227 = 0 then ((some (([(⟨a1_0, a1_1⟩ : S25), (⟨a2_0, a2_1⟩ : S25)] : List (S25)) : List (S25))).bind fun y228 => (polygon_Meets.l0 k l0 y228 (y228.length : Int) 0 a1_0 a1_1 a2_0 a2_1)) else (some (false, t227)))) = some (r1, r2) := h
 clear h
 replace H := Option.bind_eq_some_iff.mp H
 obtain ⟨t227, A40, H⟩ := H
 replace H : (if t227 = 0 then ((some (([(⟨a1_0, a1_1⟩ : S25), (⟨a2_0, a2_1⟩ : S25)] : List (S25)) : List (S25))).bind fun y228 => (polygon_Meets.l0 k l0 y228 (y228.length : Int) 0 a1_0 a1_1 a2_0 a2_1)) else (some (false, t227))) = some (r1, r2) := H
 have A4 := Aside0.mk A40; clear A40
 by_cases c5 : t227 = 0
 · rw [if_pos c5] at H
   have c5b0 : (t227 == 0) = true := beq_iff_eq.mpr c5
   have c5b1 : (t227 != 0) = false := bne_eq_false_iff_eq.mpr c5
   clear c5
   obtain ⟨y228, hy228⟩ : ∃ y_ : List (S25), y_ = (([(⟨a1_0, a1_1⟩ : S25), (⟨a2_0, a2_1⟩ : S25)] : List (S25))) := ⟨_, rfl⟩
   replace H : (polygon_Meets.l0 k l0 y228 (y228.length : Int) 0 a1_0 a1_1 a2_0 a2_1) = some (r1, r2) := by first | (rw [hy228]; with_reducible exact H) | (have H2_ := (Option.bind_some _ _).symm.trans H; rw [hy228]; with_reducible exact H2_) | (have H2_ := (Option.bind_some _ _).symm.trans H; with_reducible exact H2_) | with_reducible exact H | (rw [hy228]; exact H) | exact H
   have Ny228 := Aside0.mk hy228; clear hy228
   have H' := Aside0.mk H
   clear H
   go_enter Try.func24, Try.ntmps24
   go_wp2_with (first | ((with_reducible refine gate_dst (N := 4) rfl ?_); refine box_event ?hg (N := 4) ?hd (cs := #[.int .i64 a1_0, .int .i64 a1_1]) (t := 25) ?hr ?_; (case hd => rfl); (case hg => rfl); (case hr => first | (go_simp; done) | (go_simp; rfl)); intro gb225 hg wx96341 hbox hb; have n0_ := Aside0.mk (below_step (by repeat (first | (with_reducible first | exact HB.out | apply below_alloc | apply pw_below_drewN | apply below_drew1) | exact HB.out)) hb); have n1_ := Aside0.mk (hbox); have n2_ := Aside0.mk ((by rw [hg]; exact (below_size (by repeat (first | (with_reducible first | exact HB.out | apply below_alloc | apply pw_below_drewN | apply below_drew1) | exact HB.out))) : w.heap.size ≤ gb225)); have n3_ := Aside0.mk ((by rw [hg]; exact (below_size (by repeat (first | (with_reducible first | exact HB.out | apply below_alloc | apply pw_below_drewN | apply below_drew1) | exact HB.out))) : w.heap.size ≤ gb225)); clear HB; have HB := n0_; have BK225 := n1_; have GW225 := n2_; have GE225 := n3_; clear n0_ n1_ n2_ n3_; clear hb hbox hg) | ((with_reducible refine gate_dst (N := 5) rfl ?_); refine box_event ?hg (N := 5) ?hd (cs := #[.int .i64 a2_0, .int .i64 a2_1]) (t := 25) ?hr ?_; (case hd => rfl); (case hg => rfl); (case hr => first | (go_simp; done) | (go_simp; rfl)); intro gb226 hg wx33571 hbox hb; have n0_ := Aside0.mk (blk_below (g := gb225) (o := .cells #[.int .i64 a1_0, .int .i64 a1_1] 25 (0, 0)) (by (with_reducible repeat (first | refine blk_drewN ?_ _ | refine blk_drew ?_ | refine blk_alloc ?_ _)); exact BK225.out) hb); have n1_ := Aside0.mk (below_step (by repeat (first | (with_reducible first | exact HB.out | apply below_alloc | apply pw_below_drewN | apply below_drew1 | refine below_set ?_ GE225.out) | exact HB.out)) hb); have n2_ := Aside0.mk (hbox); have n3_ := Aside0.mk ((by rw [hg]; exact (below_size (by repeat (first | (with_reducible first | exact HB.out | apply below_alloc | apply pw_below_drewN | apply below_drew1 | refine below_set ?_ GE225.out) | exact HB.out))) : w.heap.size ≤ gb226)); have n4_ := Aside0.mk ((by rw [hg]; exact (below_size (by repeat (first | (with_reducible first | exact HB.out | apply below_alloc | apply pw_below_drewN | apply below_drew1 | refine below_set ?_ GE225.out) | exact HB.out))) : w.heap.size ≤ gb226)); have n5_ := Aside0.mk ((by rw [hg]; exact Nat.ne_of_lt (blk_lt (g := gb225) (o := .cells #[.int .i64 a1_0, .int .i64 a1_1] 25 (0, 0)) (by (with_reducible repeat (first | refine blk_drewN ?_ _ | refine blk_drew ?_ | refine blk_alloc ?_ _)); exact BK225.out)) : gb225 ≠ gb226)); have n6_ := Aside0.mk ((by rw [hg]; exact Nat.ne_of_gt (blk_lt (g := gb225) (o := .cells #[.int .i64 a1_0, .int .i64 a1_1] 25 (0, 0)) (by (with_reducible repeat (first | refine blk_drewN ?_ _ | refine blk_drew ?_ | refine blk_alloc ?_ _)); exact BK225.out)) : gb226 ≠ gb225)); clear BK225; clear HB; have BK225 := n0_; have HB := n1_; have BK226 := n2_; have GW226 := n3_; have GE226 := n4_; have NB225_226 := n5_; have NB226_225 := n6_; clear n0_ n1_ n2_ n3_ n4_ n5_ n6_; clear hb hbox hg) | ((with_reducible refine gate_callee (f := 44) rfl ?_); refine goesL_ (some 15) rfl rfl Try.func44 (by kernel_rfl) rfl #[.slice A0 l0.length c0] rfl (by (try simp only [List.map_toArray, List.map_cons, List.map_nil]); first | done | rfl | (simp only [List.length_drop, List.length_take]; rfl)) ?_; (with_reducible refine (polygon_Check.calls k _ _ l0 t227 _ ?side1 ?side2 A4.out).mono ?_); (case side1 => repeat (first | exact (Kd.C_below HR0.out HB.out) | (with_reducible refine Kd.C_alloc ?_ _) | (with_reducible refine Kd.C_drewN ?_ _) | (with_reducible refine Kd.C_drew ?_))); (case side2 => exact HC0.out); rintro e wxdad21 ⟨rfl, hb⟩; refine ⟨_, rfl, ?_⟩; have n0_ := Aside0.mk (blk_below (g := gb225) (o := .cells #[.int .i64 a1_0, .int .i64 a1_1] 25 (0, 0)) (by (with_reducible repeat (first | refine blk_drewN ?_ _ | refine blk_drew ?_ | refine blk_alloc ?_ _)); exact BK225.out) hb); have n1_ := Aside0.mk (blk_below (g := gb226) (o := .cells #[.int .i64 a2_0, .int .i64 a2_1] 25 (0, 0)) (by (with_reducible repeat (first | refine blk_drewN ?_ _ | refine blk_drew ?_ | refine blk_alloc ?_ _)); exact BK226.out) hb); have n2_ := Aside0.mk (below_step (by repeat (first | (with_reducible first | exact HB.out | apply below_alloc | apply pw_below_drewN | apply below_drew1 | refine below_set ?_ GE225.out | refine below_set ?_ GE226.out) | exact HB.out)) hb); clear BK225; clear BK226; clear HB; have BK225 := n0_; have BK226 := n1_; have HB := n2_; clear n0_ n1_ n2_; (try clear hb); (try clear hb2); (try clear hk); (try clear hi); have hnbxdad21 := NB225_226.out; have hncxdad21 := NB226_225.out; have hczxdad21 : wxdad21.cell? ⟨gb225, 0, none⟩ = some (.int .i64 a1_0) := (blk_cell BK225.out 0).trans rfl; have hczxdad22 : wxdad21.cell? ⟨gb225, 1, none⟩ = some (.int .i64 a1_1) := (blk_cell BK225.out 1).trans rfl; have hfzxdad21 := blk_frozen BK225.out 0; have hfzxdad22 := blk_frozen BK225.out 1; have hczxdad23 : wxdad21.cell? ⟨gb226, 0, none⟩ = some (.int .i64 a2_0) := (blk_cell BK226.out 0).trans rfl; have hczxdad24 : wxdad21.cell? ⟨gb226, 1, none⟩ = some (.int .i64 a2_1) := (blk_cell BK226.out 1).trans rfl; have hfzxdad23 := blk_frozen BK226.out 0; have hfzxdad24 := blk_frozen BK226.out 1) | ((with_reducible refine gate_dst (N := 21) rfl ?_); refine Kd.R_lit k25 _ 25 ?hg (N := 21) ?hd (xs := ([(⟨a1_0, a1_1⟩ : S25), (⟨a2_0, a2_1⟩ : S25)] : List (S25))) (inner := [.int .i64 a1_0, .int .i64 a1_1, .int .i64 a2_0, .int .i64 a2_1]) (ok := fun _ => True) (okp := fun _ => True) ?hr ?hp (fun _ hk => hk) trivial (Below.refl _ _) (Nat.le_refl _) (by simp) ?_; (case hd => rfl); (case hg => rfl); (case hr => first | (go_simp; done) | (go_simp; rfl)); (case hp => exact (Reps.c2 (show Kd.M k25 _ _ _ (⟨a1_0, a1_1⟩ : S25) [.int .i64 a1_0, .int .i64 a1_1] from (k25_mkM _ _ _ (⟨a1_0, a1_1⟩ : S25) )) (Reps.c2 (show Kd.M k25 _ _ _ (⟨a2_0, a2_1⟩ : S25) [.int .i64 a2_0, .int .i64 a2_1] from (k25_mkM _ _ _ (⟨a2_0, a2_1⟩ : S25) )) (Reps.none _ _)))); intro v229 wxf2761 hoxf2761 hb hg_ hnew_; clear hg_ hnew_; (first | rw [← Ny228.out] at hoxf2761 | (simp only [Int.reduceToNat] at hoxf2761; rw [← Ny228.out] at hoxf2761)); have n0_ := Aside0.mk (Kd.R_lower (Kd.R_newB (Kd.R_newB hoxf2761 (g := gb225) (o := .cells #[.int .i64 a1_0, .int .i64 a1_1] 25 (0, 0)) (by (with_reducible repeat (first | refine blk_drewN ?_ _ | refine blk_drew ?_ | refine blk_alloc ?_ _)); exact BK225.out)) (g := gb226) (o := .cells #[.int .i64 a2_0, .int .i64 a2_1] 25 (0, 0)) (by (with_reducible repeat (first | refine blk_drewN ?_ _ | refine blk_drew ?_ | refine blk_alloc ?_ _)); exact BK226.out)) (below_size (by repeat (first | (with_reducible first | exact HB.out | apply below_alloc | apply pw_below_drewN | apply below_drew1 | refine below_set ?_ GE225.out | refine below_set ?_ GE226.out) | exact HB.out)))); have n1_ := Aside0.mk (blk_below (g := gb225) (o := .cells #[.int .i64 a1_0, .int .i64 a1_1] 25 (0, 0)) (by (with_reducible repeat (first | refine blk_drewN ?_ _ | refine blk_drew ?_ | refine blk_alloc ?_ _)); exact BK225.out) hb); have n2_ := Aside0.mk (blk_below (g := gb226) (o := .cells #[.int .i64 a2_0, .int .i64 a2_1] 25 (0, 0)) (by (with_reducible repeat (first | refine blk_drewN ?_ _ | refine blk_drew ?_ | refine blk_alloc ?_ _)); exact BK226.out) hb); have n3_ := Aside0.mk (below_step (by repeat (first | (with_reducible first | exact HB.out | apply below_alloc | apply pw_below_drewN | apply below_drew1 | refine below_set ?_ GE225.out | refine below_set ?_ GE226.out) | exact HB.out)) hb); clear BK225; clear BK226; clear HB; have HO230 := n0_; have BK225 := n1_; have BK226 := n2_; have HB := n3_; clear n0_ n1_ n2_ n3_; clear hb hoxf2761; obtain ⟨Aoxf2761, coxf2761, eoxf2761⟩ := Kd.R_slice HO230.out; subst eoxf2761))
   go_loopg [23] k (fun kq v23 w' => ∃ (x23_1 : Int), v23 = .int .i64 x23_1 ∧ Aside0 (polygon_Meets.l0 kq l0 y228 (y228.length : Int) x23_1 a1_0 a1_1 a2_0 a2_1 = some (r1, r2)) ∧ Aside0 (kq ≤ k) ∧ Aside0 (Kd.R k25 25 w' w.heap.size (fun k_ => k_ ≠ gb225 ∧ k_ ≠ gb226) (.slice Aoxf2761 y228.length coxf2761) y228) ∧ Aside0 (w'.heap[gb225]? = some (.cells #[.int .i64 a1_0, .int .i64 a1_1] 25 (0, 0))) ∧ Aside0 (w'.heap[gb226]? = some (.cells #[.int .i64 a2_0, .int .i64 a2_1] 25 (0, 0))) ∧ Aside0 (Below w.heap.size w w'))
   case atStart => exact ⟨(0), (by first | rfl | (simp; done) | (simp [*]; done)), H', ⟨Nat.le_refl _⟩, ⟨by (with_reducible repeat (first | apply Kd.R_alloc | apply Kd.R_drewN | apply Kd.R_drew)); exact Kd.R_mono HO230.out (fun _ hk => ⟨hk.1.2, hk.2⟩)⟩, ⟨by (with_reducible repeat (first | refine blk_drewN ?_ _ | refine blk_drew ?_ | refine blk_alloc ?_ _)); exact BK225.out⟩, ⟨by (with_reducible repeat (first | refine blk_drewN ?_ _ | refine blk_drew ?_ | refine blk_alloc ?_ _)); exact BK226.out⟩, ⟨by repeat (first | (with_reducible first | exact HB.out | apply below_alloc | apply pw_below_drewN | apply below_drew1 | refine below_set ?_ GE225.out | refine below_set ?_ GE226.out) | exact HB.out)⟩⟩
   case round =>
    clear H'
    (try clear c2); (try clear p2); (try clear c4); (try clear c5); (try clear c5b0); (try clear c5b1); (try clear c9); (try clear hczxdad21); (try clear hczxdad22); (try clear hczxdad23); (try clear hczxdad24); (try clear hfzxdad21); (try clear hfzxdad22); (try clear hfzxdad23); (try clear hfzxdad24)
    obtain ⟨x23_1, rfl, HA, HK1, HO_21, BK225, BK226, HB⟩ := hrel
    cases gk with
    | zero => exact absurd HA.out (by simp [polygon_Meets.l0])
    | succ k1 =>
     have H := HA.out; clear HA
     simp only [polygon_Meets.l0] at H
     refine Or.elim (Classical.em (x23_1 < (y228.length : Int))) (fun c15 => ?p2_) (fun c15 => ?n2_)
     case' p2_ =>
      rw [if_pos c15] at H
      have c15b0 : decide (x23_1 < (y228.length : Int)) = true := decide_eq_true c15
      clear c15
      refine Or.elim (Classical.em (0 ≤ x23_1)) (fun c16 => ?p3_) (fun c16 => ?n3_)
      case' p3_ =>
       rw [if_pos c16] at H
       have c16b0 : decide (0 ≤ x23_1) = true := decide_eq_true c16
       clear c16
       refine Or.elim (Classical.em (x23_1 < (y228.length : Int))) (fun c17 => ?p4_) (fun c17 => ?n4_)
       case' p4_ =>
        rw [if_pos c17] at H
        have c17b0 : decide (x23_1 < (y228.length : Int)) = true := decide_eq_true c17
        clear c17
        replace H := Option.bind_eq_some_iff.mp H
        obtain ⟨t233, A180, H⟩ := H
        replace H : (if t233 = 0 then (polygon_Meets.l0 k1 l0 y228 (y228.length : Int) (wrap64 (x23_1 + 1)) a1_0 a1_1 a2_0 a2_1) else (some (false, t233))) = some (r1, r2) := H
        have A18 := Aside0.mk A180; clear A180
        refine Or.elim (Classical.em (t233 = 0)) (fun c19 => ?p5_) (fun c19 => ?n5_)
        case' p5_ =>
         rw [if_pos c19] at H
         have c19b0 : (t233 == 0) = true := beq_iff_eq.mpr c19
         have c19b1 : (t233 != 0) = false := bne_eq_false_iff_eq.mpr c19
         clear c19; have hm1_0 := Aside0.mk trivial
        case' n5_ =>
         rw [if_neg c19] at H
         have c19b0 : (t233 == 0) = false := beq_eq_false_iff_ne.mpr c19
         have c19b1 : (t233 != 0) = true := bne_iff_ne.mpr c19
         simp only [Option.some.injEq, Prod.mk.injEq] at H
         obtain ⟨rfl, rfl⟩ := H
         have p231 : 0 ≤ (x23_1 : Int) := of_decide_eq_true (by first | (with_reducible assumption) | assumption)
         have q231 : x23_1 < (y228.length : Int) := of_decide_eq_true (by first | (with_reducible assumption) | assumption)
         obtain ⟨ad231, e231, hx231_0, hx231_1⟩ := at_T25 (Kd.R_reads' HO_21.out).2.2 x23_1 p231 q231
         cases e231
         replace p231 := eq_true p231; replace q231 := eq_true q231; have hm1_1 := Aside0.mk trivial
       case' n4_ =>
        rw [if_neg c17] at H
        exact absurd H (by simp)
      case' n3_ =>
       rw [if_neg c16] at H
       exact absurd H (by simp)
     case' n2_ =>
      rw [if_neg c15] at H
      have c15b0 : decide (x23_1 < (y228.length : Int)) = false := decide_eq_false c15
      clear c15
      replace H := Option.bind_eq_some_iff.mp H
      obtain ⟨t234, A300, H⟩ := H
      replace H : (if t234 ≥ 0 then (some (true, 0)) else (polygon_Meets.l1 k1 l0 l0 (l0.length : Int) 0 a1_0 a1_1 a2_0 a2_1)) = some (r1, r2) := H
      have A30 := Aside0.mk A300; clear A300
      refine Or.elim (Classical.em (t234 ≥ 0)) (fun c31 => ?p6_) (fun c31 => ?n6_)
      case' p6_ =>
       rw [if_pos c31] at H
       have c31b0 : decide (0 ≤ t234) = true := decide_eq_true c31
       clear c31
       simp only [Option.some.injEq, Prod.mk.injEq] at H
       obtain ⟨rfl, rfl⟩ := H
       have hnbza1 := NB225_226.out; have hncza1 := NB226_225.out
       have hczza1 : wr.cell? ⟨gb225, 0, none⟩ = some (.int .i64 a1_0) := (blk_cell BK225.out 0).trans rfl
       have hczza2 : wr.cell? ⟨gb225, 1, none⟩ = some (.int .i64 a1_1) := (blk_cell BK225.out 1).trans rfl
       have hfzza1 := blk_frozen BK225.out 0; have hfzza2 := blk_frozen BK225.out 1; have hm1_2 := Aside0.mk trivial
      case' n6_ =>
       rw [if_neg c31] at H
       have c31b0 : decide (0 ≤ t234) = false := decide_eq_false c31
       clear c31; have hm1_3 := Aside0.mk trivial
     all_goals
      first
       | (first | (have _hm := hm1_0) | (have _hm := hm1_3))
         have H' := Aside0.mk H
         clear H
         first
          | clear hm1_0
            have p231 : 0 ≤ (x23_1 : Int) := of_decide_eq_true (by first | (with_reducible assumption) | assumption)
            have q231 : x23_1 < (y228.length : Int) := of_decide_eq_true (by first | (with_reducible assumption) | assumption)
            obtain ⟨ad231, e231, hx231_0, hx231_1⟩ := at_T25 (Kd.R_reads' HO_21.out).2.2 x23_1 p231 q231
            cases e231
            replace p231 := eq_true p231; replace q231 := eq_true q231
            go_wp2_with (first | ((with_reducible refine gate_dst (N := 10) rfl ?_); refine box_event ?hg (N := 10) ?hd (cs := #[.int .i64 0, .int .i64 0]) (t := 25) ?hr ?_; (case hd => rfl); (case hg => rfl); (case hr => first | (go_simp; done) | (go_simp; rfl)); intro gb232 hg wx40a41 hbox hb; have n0_ := Aside0.mk (Kd.R_below (Kd.R_elderB (by (with_reducible repeat (first | apply Kd.R_alloc | apply Kd.R_drewN | apply Kd.R_drew)); exact HO_21.out) gb232 (Nat.le_of_eq hg.symm)) hb); have n1_ := Aside0.mk (blk_below (g := gb225) (o := .cells #[.int .i64 a1_0, .int .i64 a1_1] 25 (0, 0)) (by (with_reducible repeat (first | refine blk_drewN ?_ _ | refine blk_drew ?_ | refine blk_alloc ?_ _)); exact BK225.out) hb); have n2_ := Aside0.mk (blk_below (g := gb226) (o := .cells #[.int .i64 a2_0, .int .i64 a2_1] 25 (0, 0)) (by (with_reducible repeat (first | refine blk_drewN ?_ _ | refine blk_drew ?_ | refine blk_alloc ?_ _)); exact BK226.out) hb); have n3_ := Aside0.mk (below_step (by repeat (first | (with_reducible first | exact HB.out | apply below_alloc | apply pw_below_drewN | apply below_drew1 | refine below_set ?_ GE225.out | refine below_set ?_ GE226.out) | exact HB.out)) hb); have n4_ := Aside0.mk (hbox); have n5_ := Aside0.mk ((by rw [hg]; exact (below_size (by repeat (first | (with_reducible first | exact HB.out | apply below_alloc | apply pw_below_drewN | apply below_drew1 | refine below_set ?_ GE225.out | refine below_set ?_ GE226.out) | exact HB.out))) : w.heap.size ≤ gb232)); have n6_ := Aside0.mk ((by rw [hg]; exact (below_size (by repeat (first | (with_reducible first | exact HB.out | apply below_alloc | apply pw_below_drewN | apply below_drew1 | refine below_set ?_ GE225.out | refine below_set ?_ GE226.out) | exact HB.out))) : w.heap.size ≤ gb232)); have n7_ := Aside0.mk ((by rw [hg]; exact Nat.ne_of_lt (blk_lt (g := gb225) (o := .cells #[.int .i64 a1_0, .int .i64 a1_1] 25 (0, 0)) (by (with_reducible repeat (first | refine blk_drewN ?_ _ | refine blk_drew ?_ | refine blk_alloc ?_ _)); exact BK225.out)) : gb225 ≠ gb232)); have n8_ := Aside0.mk ((by rw [hg]; exact Nat.ne_of_gt (blk_lt (g := gb225) (o := .cells #[.int .i64 a1_0, .int .i64 a1_1] 25 (0, 0)) (by (with_reducible repeat (first | refine blk_drewN ?_ _ | refine blk_drew ?_ | refine blk_alloc ?_ _)); exact BK225.out)) : gb232 ≠ gb225)); have n9_ := Aside0.mk ((by rw [hg]; exact Nat.ne_of_lt (blk_lt (g := gb226) (o := .cells #[.int .i64 a2_0, .int .i64 a2_1] 25 (0, 0)) (by (with_reducible repeat (first | refine blk_drewN ?_ _ | refine blk_drew ?_ | refine blk_alloc ?_ _)); exact BK226.out)) : gb226 ≠ gb232)); have n10_ := Aside0.mk ((by rw [hg]; exact Nat.ne_of_gt (blk_lt (g := gb226) (o := .cells #[.int .i64 a2_0, .int .i64 a2_1] 25 (0, 0)) (by (with_reducible repeat (first | refine blk_drewN ?_ _ | refine blk_drew ?_ | refine blk_alloc ?_ _)); exact BK226.out)) : gb232 ≠ gb226)); clear HO_21; clear BK225; clear BK226; clear HB; have HO_21 := n0_; have BK225 := n1_; have BK226 := n2_; have HB := n3_; have BK232 := n4_; have GW232 := n5_; have GE232 := n6_; have NB225_232 := n7_; have NB232_225 := n8_; have NB226_232 := n9_; have NB232_226 := n10_; clear n0_ n1_ n2_ n3_ n4_ n5_ n6_ n7_ n8_ n9_ n10_; clear hb hbox hg; have hnbx40a41 := NB232_225.out; have hncx40a41 := NB225_232.out; have hnbx40a42 := NB232_226.out; have hncx40a42 := NB226_232.out; have hczx40a41 : wx40a41.cell? ⟨gb232, 0, none⟩ = some (.int .i64 0) := (blk_cell BK232.out 0).trans rfl; have hczx40a42 : wx40a41.cell? ⟨gb232, 1, none⟩ = some (.int .i64 0) := (blk_cell BK232.out 1).trans rfl; have hfzx40a41 := blk_frozen BK232.out 0; have hfzx40a42 := blk_frozen BK232.out 1) | ((with_reducible refine gate_callee (f := 45) rfl ?_); refine goesL_ (some 28) rfl rfl Try.func45 (by kernel_rfl) rfl #[.agg #[.int .i64 ((rd_T25 y228 x23_1).f0), .int .i64 ((rd_T25 y228 x23_1).f1)]] rfl (by (try simp only [List.map_toArray, List.map_cons, List.map_nil]); first | done | rfl | (simp only [List.length_drop, List.length_take]; rfl)) ?_; (with_reducible refine (plane_Check.calls ((rd_T25 y228 x23_1).f0) ((rd_T25 y228 x23_1).f1) t233 _ A18.out).mono ?_); rintro e wxc1861 ⟨rfl, hb⟩; refine ⟨_, rfl, ?_⟩; have n0_ := Aside0.mk (Kd.R_below (by (with_reducible repeat (first | apply Kd.R_alloc | apply Kd.R_drewN | apply Kd.R_drew)); exact (Kd.R_mono (Kd.R_far (p := ⟨gb232, 1, none⟩) (Kd.R_far (p := ⟨gb232, 0, none⟩) (Kd.R_mono HO_21.out (fun k_ hk => (⟨hk, hk.2⟩ : _ ∧ k_ ≠ gb232))) (fun _ hk => hk.2) (.int .i64 ((rd_T25 y228 x23_1).f0))) (fun _ hk => hk.2) (.int .i64 ((rd_T25 y228 x23_1).f1))) (fun _ h_ => h_.1))) hb); have n1_ := Aside0.mk (blk_below (g := gb225) (o := .cells #[.int .i64 a1_0, .int .i64 a1_1] 25 (0, 0)) (by (with_reducible repeat (first | refine blk_drewN ?_ _ | refine blk_drew ?_ | refine blk_alloc ?_ _)); refine blk_far ?_ NB225_232.out _; (with_reducible repeat (first | refine blk_drewN ?_ _ | refine blk_drew ?_ | refine blk_alloc ?_ _)); refine blk_far ?_ NB225_232.out _; (with_reducible repeat (first | refine blk_drewN ?_ _ | refine blk_drew ?_ | refine blk_alloc ?_ _)); exact BK225.out) hb); have n2_ := Aside0.mk (blk_below (g := gb226) (o := .cells #[.int .i64 a2_0, .int .i64 a2_1] 25 (0, 0)) (by (with_reducible repeat (first | refine blk_drewN ?_ _ | refine blk_drew ?_ | refine blk_alloc ?_ _)); refine blk_far ?_ NB226_232.out _; (with_reducible repeat (first | refine blk_drewN ?_ _ | refine blk_drew ?_ | refine blk_alloc ?_ _)); refine blk_far ?_ NB226_232.out _; (with_reducible repeat (first | refine blk_drewN ?_ _ | refine blk_drew ?_ | refine blk_alloc ?_ _)); exact BK226.out) hb); have n3_ := Aside0.mk (blk_below (g := gb232) (o := .cells #[.int .i64 ((rd_T25 y228 x23_1).f0), .int .i64 ((rd_T25 y228 x23_1).f1)] 25 (0, 0)) (by (with_reducible repeat (first | refine blk_drewN ?_ _ | refine blk_drew ?_ | refine blk_alloc ?_ _)); refine blk_put (cs := #[.int .i64 ((rd_T25 y228 x23_1).f0), .int .i64 0]) ?_ 1 _ rfl; (with_reducible repeat (first | refine blk_drewN ?_ _ | refine blk_drew ?_ | refine blk_alloc ?_ _)); refine blk_put (cs := #[.int .i64 0, .int .i64 0]) ?_ 0 _ rfl; (with_reducible repeat (first | refine blk_drewN ?_ _ | refine blk_drew ?_ | refine blk_alloc ?_ _)); exact BK232.out) hb); have n4_ := Aside0.mk (below_step (by repeat (first | (with_reducible first | exact HB.out | apply below_alloc | apply pw_below_drewN | apply below_drew1 | refine below_set ?_ GE225.out | refine below_set ?_ GE226.out | refine below_set ?_ GE232.out) | exact HB.out)) hb); clear HO_21; clear BK225; clear BK226; clear BK232; clear HB; have HO_21 := n0_; have BK225 := n1_; have BK226 := n2_; have BK232 := n3_; have HB := n4_; clear n0_ n1_ n2_ n3_ n4_; (try clear hb); (try clear hb2); (try clear hk); (try clear hi)))
            go_roundg k1
            case measure => have := HK1.out; omega
            case rel => exact ⟨(wrap64 (x23_1 + 1)), (by first | rfl | (simp; done) | (simp [*]; done)), H', ⟨by have := HK1.out; omega⟩, ⟨by (with_reducible repeat (first | apply Kd.R_alloc | apply Kd.R_drewN | apply Kd.R_drew)); exact Kd.R_mono HO_21.out (fun _ hk => ⟨hk.1.1, hk.1.2⟩)⟩, ⟨by (with_reducible repeat (first | refine blk_drewN ?_ _ | refine blk_drew ?_ | refine blk_alloc ?_ _)); exact BK225.out⟩, ⟨by (with_reducible repeat (first | refine blk_drewN ?_ _ | refine blk_drew ?_ | refine blk_alloc ?_ _)); exact BK226.out⟩, ⟨by repeat (first | (with_reducible first | exact HB.out | apply below_alloc | apply pw_below_drewN | apply below_drew1 | refine below_set ?_ GE225.out | refine below_set ?_ GE226.out | refine below_set ?_ GE232.out) | exact HB.out)⟩⟩
          | clear hm1_3; have hnbzc1 := NB225_226.out; have hnczc1 := NB226_225.out
            have hczzc1 : wr.cell? ⟨gb225, 0, none⟩ = some (.int .i64 a1_0) := (blk_cell BK225.out 0).trans rfl
            have hczzc2 : wr.cell? ⟨gb225, 1, none⟩ = some (.int .i64 a1_1) := (blk_cell BK225.out 1).trans rfl
            have hfzzc1 := blk_frozen BK225.out 0; have hfzzc2 := blk_frozen BK225.out 1
            go_wp2_with (first | ((with_reducible refine gate_callee (f := 46) rfl ?_); refine goesL_ (some 35) rfl rfl Try.func46 (by kernel_rfl) rfl #[.slice A0 l0.length c0, .agg #[.int .i64 a1_0, .int .i64 a1_1]] rfl (by (try simp only [List.map_toArray, List.map_cons, List.map_nil]); first | done | rfl | (simp only [List.length_drop, List.length_take]; rfl)) ?_; (with_reducible refine (polygon_locate.calls k1 _ _ l0 a1_0 a1_1 t234 _ ?side1 ?side2 A30.out).mono ?_); (case side1 => repeat (first | exact (Kd.C_below HR0.out HB.out) | (with_reducible refine Kd.C_alloc ?_ _) | (with_reducible refine Kd.C_drewN ?_ _) | (with_reducible refine Kd.C_drew ?_))); (case side2 => exact HC0.out); rintro e wxb8441 ⟨rfl, hb⟩; refine ⟨_, rfl, ?_⟩; have n0_ := Aside0.mk (Kd.R_below (by (with_reducible repeat (first | apply Kd.R_alloc | apply Kd.R_drewN | apply Kd.R_drew)); exact HO_21.out) hb); have n1_ := Aside0.mk (blk_below (g := gb225) (o := .cells #[.int .i64 a1_0, .int .i64 a1_1] 25 (0, 0)) (by (with_reducible repeat (first | refine blk_drewN ?_ _ | refine blk_drew ?_ | refine blk_alloc ?_ _)); exact BK225.out) hb); have n2_ := Aside0.mk (blk_below (g := gb226) (o := .cells #[.int .i64 a2_0, .int .i64 a2_1] 25 (0, 0)) (by (with_reducible repeat (first | refine blk_drewN ?_ _ | refine blk_drew ?_ | refine blk_alloc ?_ _)); exact BK226.out) hb); have n3_ := Aside0.mk (below_step (by repeat (first | (with_reducible first | exact HB.out | apply below_alloc | apply pw_below_drewN | apply below_drew1 | refine below_set ?_ GE225.out | refine below_set ?_ GE226.out) | exact HB.out)) hb); clear HO_21; clear BK225; clear BK226; clear HB; have HO_21 := n0_; have BK225 := n1_; have BK226 := n2_; have HB := n3_; clear n0_ n1_ n2_ n3_; (try clear hb); (try clear hb2); (try clear hk); (try clear hi)))
            go_loopg [39] k1 (fun kq v39 w' => ∃ (x39_2 : Int), v39 = .int .i64 x39_2 ∧ Aside0 (polygon_Meets.l1 kq l0 l0 (l0.length : Int) x39_2 a1_0 a1_1 a2_0 a2_1 = some (r1, r2)) ∧ Aside0 (kq ≤ k1) ∧ Aside0 (w'.heap[gb225]? = some (.cells #[.int .i64 a1_0, .int .i64 a1_1] 25 (0, 0))) ∧ Aside0 (w'.heap[gb226]? = some (.cells #[.int .i64 a2_0, .int .i64 a2_1] 25 (0, 0))) ∧ Aside0 (Below w.heap.size w w'))
            case atStart => exact ⟨(0), (by first | rfl | (simp; done) | (simp [*]; done)), H', ⟨Nat.le_refl _⟩, ⟨by (with_reducible repeat (first | refine blk_drewN ?_ _ | refine blk_drew ?_ | refine blk_alloc ?_ _)); exact BK225.out⟩, ⟨by (with_reducible repeat (first | refine blk_drewN ?_ _ | refine blk_drew ?_ | refine blk_alloc ?_ _)); exact BK226.out⟩, ⟨by repeat (first | (with_reducible first | exact HB.out | apply below_alloc | apply pw_below_drewN | apply below_drew1 | refine below_set ?_ GE225.out | refine below_set ?_ GE226.out) | exact HB.out)⟩⟩
            case round =>
             clear H'
             (try clear c1); (try clear c2); (try clear p2); (try clear q2); (try clear hx2); (try clear c3); (try clear c4); (try clear c5); (try clear c5b0); (try clear c5b1); (try clear p6); (try clear c9); (try clear c15); (try clear c15b0); (try clear c16); (try clear c16b0); (try clear c17); (try clear c17b0); (try clear c19); (try clear c19b0); (try clear c19b1); (try clear c21); (try clear c22); (try clear p23); (try clear q23); (try clear hx23); (try clear c24); (try clear c26); (try clear c27); (try clear c31); (try clear c31b0); (try clear c32); (try clear c35); (try clear hczxdad21); (try clear hczxdad22); (try clear hczxdad23); (try clear hczxdad24); (try clear hczzc3); (try clear hczzc4); (try clear hczzc3)
             (try clear hczzc4); (try clear hczzc5); (try clear hczzc6); (try clear hczzc1); (try clear hczzc2); (try clear hfzxdad21); (try clear hfzxdad22); (try clear hfzxdad23); (try clear hfzxdad24); (try clear hfzzc3); (try clear hfzzc4); (try clear hfzzc3); (try clear hfzzc4); (try clear hfzzc5); (try clear hfzzc6); (try clear hfzzc1); (try clear hfzzc2); (try clear hx231_0); (try clear hx231_1); (try clear p2); (try clear p231); (try clear q231)
             obtain ⟨x39_2, rfl, HA, HK2, BK225, BK226, HB⟩ := hrel
             cases gk with
             | zero => exact absurd HA.out (by simp [polygon_Meets.l1])
             | succ k2 =>
              have H := HA.out; clear HA
              simp only [polygon_Meets.l1] at H
              by_cases c38 : x39_2 < (l0.length : Int)
              · rw [if_pos c38] at H
                have c38b0 : decide (x39_2 < (l0.length : Int)) = true := decide_eq_true c38
                clear c38
                by_cases c39 : 0 ≤ x39_2
                · rw [if_pos c39] at H
                  have c39b0 : decide (0 ≤ x39_2) = true := decide_eq_true c39
                  clear c39
                  by_cases c40 : x39_2 < (l0.length : Int)
                  · rw [if_pos c40] at H
                    have c40b0 : decide (x39_2 < (l0.length : Int)) = true := decide_eq_true c40
                    clear c40
                    by_cases c41 : (l0.length : Int) = 0
                    · rw [if_pos c41] at H
                      exact absurd H (by simp)
                    · rw [if_neg c41] at H
                      have c41b0 : ((l0.length : Int) == 0) = false := beq_eq_false_iff_ne.mpr c41
                      have c41b1 : ((l0.length : Int) != 0) = true := bne_iff_ne.mpr c41
                      have c41b2 : ¬ (l0 = []) := fun h_ => c41 (by rw [h_]; rfl)
                      obtain ⟨ji42, hji42⟩ : ∃ j_ : Int, (Int.tmod (wrap64 ((wrap64 (x39_2 + (l0.length : Int))) - 1)) (l0.length : Int)) = j_ := ⟨_, rfl⟩
                      replace H : (if 0 ≤ (ji42) then (if (ji42) < (l0.length : Int) then ((polygon_Common.f k2 a1_0 a1_1 a2_0 a2_1 ((rd_T25 l0 (ji42)).f0) ((rd_T25 l0 (ji42)).f1) ((rd_T25 l0 x39_2).f0) ((rd_T25 l0 x39_2).f1)).bind fun t238 => (if t238 = true then (some (true, 0)) else (polygon_Meets.l1 k2 l0 l0 (l0.length : Int) (wrap64 (x39_2 + 1)) a1_0 a1_1 a2_0 a2_1))) else (none)) else (none)) = some (r1, r2) := by first | (rw [hji42] at H; exact H) | (simp only [hji42] at H ⊢; exact H)
                      by_cases c43 : 0 ≤ (ji42)
                      · rw [if_pos c43] at H
                        have c43b0 : decide (0 ≤ (ji42)) = true := decide_eq_true c43
                        clear c43
                        by_cases c44 : (ji42) < (l0.length : Int)
                        · rw [if_pos c44] at H
                          have c44b0 : decide ((ji42) < (l0.length : Int)) = true := decide_eq_true c44
                          clear c44
                          replace H := Option.bind_eq_some_iff.mp H
                          obtain ⟨t238, A450, H⟩ := H
                          replace H : (if t238 = true then (some (true, 0)) else (polygon_Meets.l1 k2 l0 l0 (l0.length : Int) (wrap64 (x39_2 + 1)) a1_0 a1_1 a2_0 a2_1)) = some (r1, r2) := H
                          have A45 := Aside0.mk A450; clear A450
                          by_cases c46 : t238 = true
                          · subst c46
                            have H1 : (some (true, 0)) = some (r1, r2) := by rw [if_pos rfl] at H; exact H
                            clear H; have H := H1; clear H1
                            simp only [Option.some.injEq, Prod.mk.injEq] at H
                            obtain ⟨rfl, rfl⟩ := H
                            have p235 : 0 ≤ (x39_2 : Int) := of_decide_eq_true (by first | (with_reducible assumption) | assumption)
                            have q235 : x39_2 < (l0.length : Int) := of_decide_eq_true (by first | (with_reducible assumption) | assumption)
                            obtain ⟨ad235, e235, hx235_0, hx235_1⟩ := at_T25 HR0.out x39_2 p235 q235
                            cases e235
                            replace hx235_0 := (HB.out.cell (World.block_lt_of_cell? w _ hx235_0)).trans hx235_0
                            replace hx235_1 := (HB.out.cell (World.block_lt_of_cell? w _ hx235_1)).trans hx235_1
                            replace p235 := eq_true p235; replace q235 := eq_true q235
                            try go_wp2_with (first | ((with_reducible refine gate_dst (N := 13) rfl ?_); refine box_event ?hg (N := 13) ?hd (cs := #[.int .i64 0, .int .i64 0]) (t := 25) ?hr ?_; (case hd => rfl); (case hg => rfl); (case hr => first | (go_simp; done) | (go_simp; rfl)); intro gb236 hg wx20211 hbox hb; have n0_ := Aside0.mk (blk_below (g := gb225) (o := .cells #[.int .i64 a1_0, .int .i64 a1_1] 25 (0, 0)) (by (with_reducible repeat (first | refine blk_drewN ?_ _ | refine blk_drew ?_ | refine blk_alloc ?_ _)); exact BK225.out) hb); have n1_ := Aside0.mk (blk_below (g := gb226) (o := .cells #[.int .i64 a2_0, .int .i64 a2_1] 25 (0, 0)) (by (with_reducible repeat (first | refine blk_drewN ?_ _ | refine blk_drew ?_ | refine blk_alloc ?_ _)); exact BK226.out) hb); have n2_ := Aside0.mk (below_step (by repeat (first | (with_reducible first | exact HB.out | apply below_alloc | apply pw_below_drewN | apply below_drew1 | refine below_set ?_ GE225.out | refine below_set ?_ GE226.out) | exact HB.out)) hb); have n3_ := Aside0.mk (hbox); have n4_ := Aside0.mk ((by rw [hg]; exact (below_size (by repeat (first | (with_reducible first | exact HB.out | apply below_alloc | apply pw_below_drewN | apply below_drew1 | refine below_set ?_ GE225.out | refine below_set ?_ GE226.out) | exact HB.out))) : w.heap.size ≤ gb236)); have n5_ := Aside0.mk ((by rw [hg]; exact (below_size (by repeat (first | (with_reducible first | exact HB.out | apply below_alloc | apply pw_below_drewN | apply below_drew1 | refine below_set ?_ GE225.out | refine below_set ?_ GE226.out) | exact HB.out))) : w.heap.size ≤ gb236)); have n6_ := Aside0.mk ((by rw [hg]; exact Nat.ne_of_lt (blk_lt (g := gb225) (o := .cells #[.int .i64 a1_0, .int .i64 a1_1] 25 (0, 0)) (by (with_reducible repeat (first | refine blk_drewN ?_ _ | refine blk_drew ?_ | refine blk_alloc ?_ _)); exact BK225.out)) : gb225 ≠ gb236)); have n7_ := Aside0.mk ((by rw [hg]; exact Nat.ne_of_gt (blk_lt (g := gb225) (o := .cells #[.int .i64 a1_0, .int .i64 a1_1] 25 (0, 0)) (by (with_reducible repeat (first | refine blk_drewN ?_ _ | refine blk_drew ?_ | refine blk_alloc ?_ _)); exact BK225.out)) : gb236 ≠ gb225)); have n8_ := Aside0.mk ((by rw [hg]; exact Nat.ne_of_lt (blk_lt (g := gb226) (o := .cells #[.int .i64 a2_0, .int .i64 a2_1] 25 (0, 0)) (by (with_reducible repeat (first | refine blk_drewN ?_ _ | refine blk_drew ?_ | refine blk_alloc ?_ _)); exact BK226.out)) : gb226 ≠ gb236)); have n9_ := Aside0.mk ((by rw [hg]; exact Nat.ne_of_gt (blk_lt (g := gb226) (o := .cells #[.int .i64 a2_0, .int .i64 a2_1] 25 (0, 0)) (by (with_reducible repeat (first | refine blk_drewN ?_ _ | refine blk_drew ?_ | refine blk_alloc ?_ _)); exact BK226.out)) : gb236 ≠ gb226)); clear BK225; clear BK226; clear HB; have BK225 := n0_; have BK226 := n1_; have HB := n2_; have BK236 := n3_; have GW236 := n4_; have GE236 := n5_; have NB225_236 := n6_; have NB236_225 := n7_; have NB226_236 := n8_; have NB236_226 := n9_; clear n0_ n1_ n2_ n3_ n4_ n5_ n6_ n7_ n8_ n9_; clear hb hbox hg; have hnbx20211 := NB236_225.out; have hncx20211 := NB225_236.out; have hnbx20212 := NB236_226.out; have hncx20212 := NB226_236.out; have hczx20211 : wx20211.cell? ⟨gb236, 0, none⟩ = some (.int .i64 0) := (blk_cell BK236.out 0).trans rfl; have hczx20212 : wx20211.cell? ⟨gb236, 1, none⟩ = some (.int .i64 0) := (blk_cell BK236.out 1).trans rfl; have hfzx20211 := blk_frozen BK236.out 0; have hfzx20212 := blk_frozen BK236.out 1))
                            have n0_ : Aside0 (((wx20211.setCell ⟨gb236, 0, none⟩ (.int .i64 ((rd_T25 l0 x39_2).f0))).setCell ⟨gb236, 1, none⟩ (.int .i64 ((rd_T25 l0 x39_2).f1))).heap[gb225]? = some (.cells #[.int .i64 a1_0, .int .i64 a1_1] 25 (0, 0))) := ⟨by (with_reducible repeat (first | refine blk_drewN ?_ _ | refine blk_drew ?_ | refine blk_alloc ?_ _)); refine blk_far ?_ NB225_236.out _; (with_reducible repeat (first | refine blk_drewN ?_ _ | refine blk_drew ?_ | refine blk_alloc ?_ _)); refine blk_far ?_ NB225_236.out _; (with_reducible repeat (first | refine blk_drewN ?_ _ | refine blk_drew ?_ | refine blk_alloc ?_ _)); exact BK225.out⟩
                            have n1_ : Aside0 (((wx20211.setCell ⟨gb236, 0, none⟩ (.int .i64 ((rd_T25 l0 x39_2).f0))).setCell ⟨gb236, 1, none⟩ (.int .i64 ((rd_T25 l0 x39_2).f1))).heap[gb226]? = some (.cells #[.int .i64 a2_0, .int .i64 a2_1] 25 (0, 0))) := ⟨by (with_reducible repeat (first | refine blk_drewN ?_ _ | refine blk_drew ?_ | refine blk_alloc ?_ _)); refine blk_far ?_ NB226_236.out _; (with_reducible repeat (first | refine blk_drewN ?_ _ | refine blk_drew ?_ | refine blk_alloc ?_ _)); refine blk_far ?_ NB226_236.out _; (with_reducible repeat (first | refine blk_drewN ?_ _ | refine blk_drew ?_ | refine blk_alloc ?_ _)); exact BK226.out⟩
                            have n2_ : Aside0 (((wx20211.setCell ⟨gb236, 0, none⟩ (.int .i64 ((rd_T25 l0 x39_2).f0))).setCell ⟨gb236, 1, none⟩ (.int .i64 ((rd_T25 l0 x39_2).f1))).heap[gb236]? = some (.cells #[.int .i64 ((rd_T25 l0 x39_2).f0), .int .i64 ((rd_T25 l0 x39_2).f1)] 25 (0, 0))) := ⟨by (with_reducible repeat (first | refine blk_drewN ?_ _ | refine blk_drew ?_ | refine blk_alloc ?_ _)); refine blk_put (cs := #[.int .i64 ((rd_T25 l0 x39_2).f0), .int .i64 0]) ?_ 1 _ rfl; (with_reducible repeat (first | refine blk_drewN ?_ _ | refine blk_drew ?_ | refine blk_alloc ?_ _)); refine blk_put (cs := #[.int .i64 0, .int .i64 0]) ?_ 0 _ rfl; (with_reducible repeat (first | refine blk_drewN ?_ _ | refine blk_drew ?_ | refine blk_alloc ?_ _)); exact BK236.out⟩
                            have n3_ : Aside0 (Below w.heap.size w ((wx20211.setCell ⟨gb236, 0, none⟩ (.int .i64 ((rd_T25 l0 x39_2).f0))).setCell ⟨gb236, 1, none⟩ (.int .i64 ((rd_T25 l0 x39_2).f1)))) := ⟨by repeat (first | (with_reducible first | exact HB.out | apply below_alloc | apply pw_below_drewN | apply below_drew1 | refine below_set ?_ GE225.out | refine below_set ?_ GE226.out | refine below_set ?_ GE236.out) | exact HB.out)⟩
                            (try clear BK225)
                            (try clear BK226)
                            (try clear BK236)
                            (try clear HB)
                            generalize ((wx20211.setCell ⟨gb236, 0, none⟩ (.int .i64 ((rd_T25 l0 x39_2).f0))).setCell ⟨gb236, 1, none⟩ (.int .i64 ((rd_T25 l0 x39_2).f1))) = wze1 at n0_ n1_ n2_ n3_ ⊢
                            have BK225 := n0_; have BK226 := n1_; have BK236 := n2_; have HB := n3_; clear n0_ n1_ n2_ n3_
                            have n0_ := Aside0.mk (blk_drew BK225.out)
                            have n1_ := Aside0.mk (blk_drew BK226.out)
                            have n2_ := Aside0.mk (blk_drew BK236.out)
                            have n3_ := Aside0.mk (below_drew1 HB.out)
                            clear BK225; clear BK226; clear BK236; clear HB; have BK225 := n0_; have BK226 := n1_; have BK236 := n2_; have HB := n3_; clear n0_ n1_ n2_ n3_
                            have p237 : 0 ≤ ((ji42) : Int) := of_decide_eq_true (by first | (with_reducible assumption) | assumption)
                            have q237 : (ji42) < (l0.length : Int) := of_decide_eq_true (by first | (with_reducible assumption) | assumption)
                            obtain ⟨ad237, e237, hx237_0, hx237_1⟩ := at_T25 HR0.out (ji42) p237 q237
                            have hw237_1 := hx237_1; have hw237_0 := hx237_0
                            obtain rfl : ad235 = ad237 := (by injection e237)
                            replace hx237_0 := (HB.out.cell (World.block_lt_of_cell? w _ hx237_0)).trans hx237_0
                            replace hx237_1 := (HB.out.cell (World.block_lt_of_cell? w _ hx237_1)).trans hx237_1
                            replace p237 := eq_true p237; replace q237 := eq_true q237
                            refine start_ (n := 15) (S := fun w' => w'.cell? ⟨gb225, 0, none⟩ = some (.int .i64 a1_0) ∧ w'.cell? ⟨gb225, 1, none⟩ = some (.int .i64 a1_1) ∧ w'.cell? ⟨gb226, 0, none⟩ = some (.int .i64 a2_0) ∧ w'.cell? ⟨gb226, 1, none⟩ = some (.int .i64 a2_1) ∧ w'.cell? ⟨gb236, 0, none⟩ = some (.int .i64 ((rd_T25 l0 x39_2).f0)) ∧ w'.cell? ⟨gb236, 1, none⟩ = some (.int .i64 ((rd_T25 l0 x39_2).f1)) ∧ w'.cell? (ad235.add (((ji42)).toNat * 2)) = some (.int .i64 ((rd_T25 l0 (ji42)).f0)) ∧ w'.cell? ⟨(ad235.add (((ji42)).toNat * 2)).block, (ad235.add (((ji42)).toNat * 2)).off + 1, none⟩ = some (.int .i64 ((rd_T25 l0 (ji42)).f1))) (ds := []) #[false, false, false, false, false, false, false, false, false, false, false, false, false, false, false] (by kernel_rfl) rfl rfl ⟨(blk_cell BK225.out 0).trans rfl, (blk_cell BK225.out 1).trans rfl, (blk_cell BK226.out 0).trans rfl, (blk_cell BK226.out 1).trans rfl, (blk_cell BK236.out 0).trans rfl, (blk_cell BK236.out 1).trans rfl, ((HB.out.cell (World.block_lt_of_cell? w _ hw237_0)).trans hw237_0), ((HB.out.cell (World.block_lt_of_cell? w _ hw237_1)).trans hw237_1)⟩ (fun hHeld => ?_); refine with_tabW polygon_Meets.tab16 polygon_Meets.bits16 (fun HT_ HW_ => ?_)
                            generalize wze1.drew = wze2 at BK225 BK226 BK236 HB hx237_0 hx237_1 hHeld ⊢
                            refine pure_ (i := 2) (N := some 46) (v := ?_) (a' := ?_) #[false, false, true, false, false, false, false, false, false, false, false, false, false, false, false] rfl rfl (any_of HT_.out (by kernel_rfl)) (fun _ _ _ h => h) (Or.inl ⟨by rfl, ?_⟩) ?_ ?_
                            rotate_left
                            · intro w'; go_simp; with_reducible rfl
                            rotate_left
                            · simp only [Act.put, List.setIfInBounds_toArray, List.set_cons_zero, List.set_cons_succ, i64_w, i32_w]; rfl
                            refine pure_ (i := 3) (N := some 47) (v := ?_) (a' := ?_) #[false, false, true, true, false, false, false, false, false, false, false, false, false, false, false] rfl rfl (any_of HT_.out (by kernel_rfl)) (fun _ _ _ h => h) (Or.inl ⟨by rfl, ?_⟩) ?_ ?_
                            rotate_left
                            · intro w'; go_simp; with_reducible rfl
                            rotate_left
                            · simp only [Act.put, List.setIfInBounds_toArray, List.set_cons_zero, List.set_cons_succ, i64_w, i32_w]; rfl
                            refine pure_ (i := 4) (N := some 48) (v := ?_) (a' := ?_) #[false, false, true, true, true, false, false, false, false, false, false, false, false, false, false] rfl rfl (any_of HT_.out (by kernel_rfl)) (fun _ _ _ h => h) (Or.inl ⟨by rfl, ?_⟩) ?_ ?_
                            rotate_left
                            · intro w'; go_simp; with_reducible rfl
                            rotate_left
                            · simp only [Act.put, List.setIfInBounds_toArray, List.set_cons_zero, List.set_cons_succ, i64_w, i32_w]; rfl
                            refine pure_ (i := 5) (N := some 49) (v := ?_) (a' := ?_) #[false, false, true, true, true, true, false, false, false, false, false, false, false, false, false] rfl rfl (any_of HT_.out (by kernel_rfl)) (fun _ _ _ h => h) (Or.inl ⟨by rfl, ?_⟩) ?_ ?_
                            rotate_left
                            · intro w'; go_simp; with_reducible rfl
                            rotate_left
                            · simp only [Act.put, List.setIfInBounds_toArray, List.set_cons_zero, List.set_cons_succ, i64_w, i32_w]; rfl
                            refine pure_ (i := 6) (N := some 50) (v := ?_) (a' := ?_) #[false, false, true, true, true, true, true, false, false, false, false, false, false, false, false] rfl rfl (any_of HT_.out (by kernel_rfl)) (fun _ _ _ h => h) (Or.inl ⟨by rfl, ?_⟩) ?_ ?_
                            rotate_left
                            · intro w'; go_simp; with_reducible rfl
                            rotate_left
                            · simp only [Act.put, List.setIfInBounds_toArray, List.set_cons_zero, List.set_cons_succ, i64_w, i32_w]; rfl
                            refine pure_ (i := 7) (N := some 51) (v := ?_) (a' := ?_) #[false, false, true, true, true, true, true, true, false, false, false, false, false, false, false] rfl rfl (any_of HT_.out (by kernel_rfl)) (fun _ _ _ h => h) (Or.inl ⟨by rfl, ?_⟩) ?_ ?_
                            rotate_left
                            · intro w'; go_simp; with_reducible rfl
                            rotate_left
                            · simp only [Act.put, List.setIfInBounds_toArray, List.set_cons_zero, List.set_cons_succ, i64_w, i32_w]; rfl
                            refine pure_ (i := 8) (N := some 52) (v := ?_) (a' := ?_) #[false, false, true, true, true, true, true, true, true, false, false, false, false, false, false] rfl rfl (any_of HT_.out (by kernel_rfl)) (fun _ _ _ h => h) (Or.inl ⟨by rfl, ?_⟩) ?_ ?_
                            rotate_left
                            · intro w'; go_simp; with_reducible rfl
                            rotate_left
                            · simp only [Act.put, List.setIfInBounds_toArray, List.set_cons_zero, List.set_cons_succ, i64_w, i32_w]; rfl
                            refine pure_ (i := 9) (N := some 53) (v := ?_) (a' := ?_) #[false, false, true, true, true, true, true, true, true, true, false, false, false, false, false] rfl rfl (any_of HT_.out (by kernel_rfl)) (fun _ _ _ h => h) (Or.inl ⟨by rfl, ?_⟩) ?_ ?_
                            rotate_left
                            · intro w'; go_simp; with_reducible rfl
                            rotate_left
                            · simp only [Act.put, List.setIfInBounds_toArray, List.set_cons_zero, List.set_cons_succ, i64_w, i32_w]; rfl
                            refine pure_ (i := 10) (N := some 54) (v := ?_) (a' := ?_) #[false, false, true, true, true, true, true, true, true, true, true, false, false, false, false] rfl rfl (any_of HT_.out (by kernel_rfl)) (fun _ _ _ h => h) (Or.inl ⟨by rfl, ?_⟩) ?_ ?_
                            rotate_left
                            · intro w'; go_simp; with_reducible rfl
                            rotate_left
                            · simp only [Act.put, List.setIfInBounds_toArray, List.set_cons_zero, List.set_cons_succ, i64_w, i32_w]; rfl
                            refine pure_ (i := 11) (N := some 55) (v := ?_) (a' := ?_) #[false, false, true, true, true, true, true, true, true, true, true, true, false, false, false] rfl rfl (any_of HT_.out (by kernel_rfl)) (fun _ _ _ h => h) (Or.inl ⟨by rfl, ?_⟩) ?_ ?_
                            rotate_left
                            · intro w'; go_simp; with_reducible rfl
                            rotate_left
                            · simp only [Act.put, List.setIfInBounds_toArray, List.set_cons_zero, List.set_cons_succ, i64_w, i32_w]; rfl
                            refine take_ (i := 0) (N := some 44) (v := ?_) (a' := ?_) #[true, false, true, true, true, true, true, true, true, true, true, true, false, false, false] rfl rfl (take_ofW HT_.out HW_.out (by kernel_rfl)) (fun _ _ _ h => h) (Or.inl ⟨by rfl, ?_⟩) hHeld ?_ ?_
                            rotate_left
                            · rintro w' ⟨s0, s1, s2, s3, s4, s5, s6, s7⟩
                              go_simp; with_reducible rfl
                            rotate_left
                            · simp only [Act.put, List.setIfInBounds_toArray, List.set_cons_zero, List.set_cons_succ, i64_w, i32_w]; rfl
                            refine take_ (i := 1) (N := some 45) (v := ?_) (a' := ?_) #[true, true, true, true, true, true, true, true, true, true, true, true, false, false, false] rfl rfl (take_ofW HT_.out HW_.out (by kernel_rfl)) (fun _ _ _ h => h) (Or.inl ⟨by rfl, ?_⟩) hHeld ?_ ?_
                            rotate_left
                            · rintro w' ⟨s0, s1, s2, s3, s4, s5, s6, s7⟩
                              go_simp; with_reducible rfl
                            rotate_left
                            · simp only [Act.put, List.setIfInBounds_toArray, List.set_cons_zero, List.set_cons_succ, i64_w, i32_w]; rfl
                            refine take_ (i := 12) (N := some 56) (v := ?_) (a' := ?_) #[true, true, true, true, true, true, true, true, true, true, true, true, true, false, false] rfl rfl (take_ofW HT_.out HW_.out (by kernel_rfl)) (fun _ _ _ h => h) (Or.inl ⟨by rfl, ?_⟩) hHeld ?_ ?_
                            rotate_left
                            · rintro w' ⟨s0, s1, s2, s3, s4, s5, s6, s7⟩
                              go_simp; with_reducible rfl
                            rotate_left
                            · simp only [Act.put, List.setIfInBounds_toArray, List.set_cons_zero, List.set_cons_succ, i64_w, i32_w]; rfl
                            refine take_ (i := 13) (N := some 57) (v := ?_) (a' := ?_) #[true, true, true, true, true, true, true, true, true, true, true, true, true, true, false] rfl rfl (take_ofW HT_.out HW_.out (by kernel_rfl)) (fun _ _ _ h => h) (Or.inl ⟨by rfl, ?_⟩) hHeld ?_ ?_
                            rotate_left
                            · rintro w' ⟨s0, s1, s2, s3, s4, s5, s6, s7⟩
                              go_simp; with_reducible rfl
                            rotate_left
                            · simp only [Act.put, List.setIfInBounds_toArray, List.set_cons_zero, List.set_cons_succ, i64_w, i32_w]; rfl
                            refine one_ (i := 14) (N := some 58) #[true, true, true, true, true, true, true, true, true, true, true, true, true, true, true] rfl rfl (one_of HT_.out (by kernel_rfl)) (by decide) (fun K hK => ?_)
                            refine goes_ Try.func51 (by kernel_rfl) rfl #[.agg #[.int .i64 a1_0, .int .i64 a1_1], .agg #[.int .i64 a2_0, .int .i64 a2_1], .agg #[.int .i64 ((rd_T25 l0 (ji42)).f0), .int .i64 ((rd_T25 l0 (ji42)).f1)], .agg #[.int .i64 ((rd_T25 l0 x39_2).f0), .int .i64 ((rd_T25 l0 x39_2).f1)]] (by rfl) rfl rfl (by (try simp only [List.map_toArray, List.map_cons, List.map_nil]); first | done | (simp only [hji42]; rfl) | rfl | (simp only [List.length_drop, List.length_take]; rfl)) ?_
                            with_reducible refine (polygon_Common.calls k2 a1_0 a1_1 a2_0 a2_1 ((rd_T25 l0 (ji42)).f0) ((rd_T25 l0 (ji42)).f1) ((rd_T25 l0 x39_2).f0) ((rd_T25 l0 x39_2).f1) true _ A45.out).mono ?_
                            rintro e wze3 ⟨rfl, hb⟩
                            refine ⟨_, rfl, ?_⟩
                            have n0_ := Aside0.mk (blk_below (g := gb225) (o := .cells #[.int .i64 a1_0, .int .i64 a1_1] 25 (0, 0)) (by (with_reducible repeat (first | refine blk_drewN ?_ _ | refine blk_drew ?_ | refine blk_alloc ?_ _)); exact BK225.out) hb)
                            have n1_ := Aside0.mk (blk_below (g := gb226) (o := .cells #[.int .i64 a2_0, .int .i64 a2_1] 25 (0, 0)) (by (with_reducible repeat (first | refine blk_drewN ?_ _ | refine blk_drew ?_ | refine blk_alloc ?_ _)); exact BK226.out) hb)
                            have n2_ := Aside0.mk (blk_below (g := gb236) (o := .cells #[.int .i64 ((rd_T25 l0 x39_2).f0), .int .i64 ((rd_T25 l0 x39_2).f1)] 25 (0, 0)) (by (with_reducible repeat (first | refine blk_drewN ?_ _ | refine blk_drew ?_ | refine blk_alloc ?_ _)); exact BK236.out) hb)
                            have n3_ := Aside0.mk (below_step (by repeat (first | (with_reducible first | exact HB.out | apply below_alloc | apply pw_below_drewN | apply below_drew1 | refine below_set ?_ GE225.out | refine below_set ?_ GE226.out | refine below_set ?_ GE236.out) | exact HB.out)) hb)
                            clear BK225; clear BK226; clear BK236; clear HB; have BK225 := n0_; have BK226 := n1_; have BK236 := n2_; have HB := n3_; clear n0_ n1_ n2_ n3_
                            (try clear hb)
                            (try clear hb2)
                            (try clear hk)
                            (try clear hi)
                            refine hK.out _ _ ⟨(blk_cell BK225.out 0).trans rfl, (blk_cell BK225.out 1).trans rfl, (blk_cell BK226.out 0).trans rfl, (blk_cell BK226.out 1).trans rfl, (blk_cell BK236.out 0).trans rfl, (blk_cell BK236.out 1).trans rfl, ((HB.out.cell (World.block_lt_of_cell? w _ hw237_0)).trans hw237_0), ((HB.out.cell (World.block_lt_of_cell? w _ hw237_1)).trans hw237_1)⟩ (fun hHeld => ?_)
                            clear hK K
                            refine norm_ (a' := ?_) ?_ ?_
                            rotate_left
                            · show Act.put _ (some 58) _ = _
                              simp only [Act.put, List.setIfInBounds_toArray, List.set_cons_zero, List.set_cons_succ, i64_w, i32_w]; rfl
                            refine done_ (done_of HT_.out (by kernel_rfl)) ?_
                            try go_wp2
                            go_ret2
                            exact ⟨by first | rfl | (simp [errW_none, errW_some] <;> rfl) | (simp only [← hji42]; first | rfl | (simp [errW_none, errW_some] <;> rfl)) | (simp [*, errW_none, errW_some] <;> rfl), by repeat (first | (with_reducible first | exact HB.out | apply below_alloc | apply pw_below_drewN | apply below_drew1 | refine below_set ?_ GE225.out | refine below_set ?_ GE226.out | refine below_set ?_ GE236.out) | exact HB.out)⟩
                          · replace c46 := Bool.eq_false_iff.mpr c46
                            subst c46
                            have H1 : (polygon_Meets.l1 k2 l0 l0 (l0.length : Int) (wrap64 (x39_2 + 1)) a1_0 a1_1 a2_0 a2_1) = some (r1, r2) := by rw [if_neg (show ¬ (false = true) by decide)] at H; exact H
                            clear H; have H := H1; clear H1
                            have H' := Aside0.mk H
                            clear H
                            have p235 : 0 ≤ (x39_2 : Int) := of_decide_eq_true (by first | (with_reducible assumption) | assumption)
                            have q235 : x39_2 < (l0.length : Int) := of_decide_eq_true (by first | (with_reducible assumption) | assumption)
                            obtain ⟨ad235, e235, hx235_0, hx235_1⟩ := at_T25 HR0.out x39_2 p235 q235
                            cases e235
                            replace hx235_0 := (HB.out.cell (World.block_lt_of_cell? w _ hx235_0)).trans hx235_0
                            replace hx235_1 := (HB.out.cell (World.block_lt_of_cell? w _ hx235_1)).trans hx235_1
                            replace p235 := eq_true p235; replace q235 := eq_true q235
                            try go_wp2_with (first | ((with_reducible refine gate_dst (N := 13) rfl ?_); refine box_event ?hg (N := 13) ?hd (cs := #[.int .i64 0, .int .i64 0]) (t := 25) ?hr ?_; (case hd => rfl); (case hg => rfl); (case hr => first | (go_simp; done) | (go_simp; rfl)); intro gb236 hg wx20211 hbox hb; have n0_ := Aside0.mk (blk_below (g := gb225) (o := .cells #[.int .i64 a1_0, .int .i64 a1_1] 25 (0, 0)) (by (with_reducible repeat (first | refine blk_drewN ?_ _ | refine blk_drew ?_ | refine blk_alloc ?_ _)); exact BK225.out) hb); have n1_ := Aside0.mk (blk_below (g := gb226) (o := .cells #[.int .i64 a2_0, .int .i64 a2_1] 25 (0, 0)) (by (with_reducible repeat (first | refine blk_drewN ?_ _ | refine blk_drew ?_ | refine blk_alloc ?_ _)); exact BK226.out) hb); have n2_ := Aside0.mk (below_step (by repeat (first | (with_reducible first | exact HB.out | apply below_alloc | apply pw_below_drewN | apply below_drew1 | refine below_set ?_ GE225.out | refine below_set ?_ GE226.out) | exact HB.out)) hb); have n3_ := Aside0.mk (hbox); have n4_ := Aside0.mk ((by rw [hg]; exact (below_size (by repeat (first | (with_reducible first | exact HB.out | apply below_alloc | apply pw_below_drewN | apply below_drew1 | refine below_set ?_ GE225.out | refine below_set ?_ GE226.out) | exact HB.out))) : w.heap.size ≤ gb236)); have n5_ := Aside0.mk ((by rw [hg]; exact (below_size (by repeat (first | (with_reducible first | exact HB.out | apply below_alloc | apply pw_below_drewN | apply below_drew1 | refine below_set ?_ GE225.out | refine below_set ?_ GE226.out) | exact HB.out))) : w.heap.size ≤ gb236)); have n6_ := Aside0.mk ((by rw [hg]; exact Nat.ne_of_lt (blk_lt (g := gb225) (o := .cells #[.int .i64 a1_0, .int .i64 a1_1] 25 (0, 0)) (by (with_reducible repeat (first | refine blk_drewN ?_ _ | refine blk_drew ?_ | refine blk_alloc ?_ _)); exact BK225.out)) : gb225 ≠ gb236)); have n7_ := Aside0.mk ((by rw [hg]; exact Nat.ne_of_gt (blk_lt (g := gb225) (o := .cells #[.int .i64 a1_0, .int .i64 a1_1] 25 (0, 0)) (by (with_reducible repeat (first | refine blk_drewN ?_ _ | refine blk_drew ?_ | refine blk_alloc ?_ _)); exact BK225.out)) : gb236 ≠ gb225)); have n8_ := Aside0.mk ((by rw [hg]; exact Nat.ne_of_lt (blk_lt (g := gb226) (o := .cells #[.int .i64 a2_0, .int .i64 a2_1] 25 (0, 0)) (by (with_reducible repeat (first | refine blk_drewN ?_ _ | refine blk_drew ?_ | refine blk_alloc ?_ _)); exact BK226.out)) : gb226 ≠ gb236)); have n9_ := Aside0.mk ((by rw [hg]; exact Nat.ne_of_gt (blk_lt (g := gb226) (o := .cells #[.int .i64 a2_0, .int .i64 a2_1] 25 (0, 0)) (by (with_reducible repeat (first | refine blk_drewN ?_ _ | refine blk_drew ?_ | refine blk_alloc ?_ _)); exact BK226.out)) : gb236 ≠ gb226)); clear BK225; clear BK226; clear HB; have BK225 := n0_; have BK226 := n1_; have HB := n2_; have BK236 := n3_; have GW236 := n4_; have GE236 := n5_; have NB225_236 := n6_; have NB236_225 := n7_; have NB226_236 := n8_; have NB236_226 := n9_; clear n0_ n1_ n2_ n3_ n4_ n5_ n6_ n7_ n8_ n9_; clear hb hbox hg; have hnbx20211 := NB236_225.out; have hncx20211 := NB225_236.out; have hnbx20212 := NB236_226.out; have hncx20212 := NB226_236.out; have hczx20211 : wx20211.cell? ⟨gb236, 0, none⟩ = some (.int .i64 0) := (blk_cell BK236.out 0).trans rfl; have hczx20212 : wx20211.cell? ⟨gb236, 1, none⟩ = some (.int .i64 0) := (blk_cell BK236.out 1).trans rfl; have hfzx20211 := blk_frozen BK236.out 0; have hfzx20212 := blk_frozen BK236.out 1))
                            have n0_ : Aside0 (((wx20211.setCell ⟨gb236, 0, none⟩ (.int .i64 ((rd_T25 l0 x39_2).f0))).setCell ⟨gb236, 1, none⟩ (.int .i64 ((rd_T25 l0 x39_2).f1))).heap[gb225]? = some (.cells #[.int .i64 a1_0, .int .i64 a1_1] 25 (0, 0))) := ⟨by (with_reducible repeat (first | refine blk_drewN ?_ _ | refine blk_drew ?_ | refine blk_alloc ?_ _)); refine blk_far ?_ NB225_236.out _; (with_reducible repeat (first | refine blk_drewN ?_ _ | refine blk_drew ?_ | refine blk_alloc ?_ _)); refine blk_far ?_ NB225_236.out _; (with_reducible repeat (first | refine blk_drewN ?_ _ | refine blk_drew ?_ | refine blk_alloc ?_ _)); exact BK225.out⟩
                            have n1_ : Aside0 (((wx20211.setCell ⟨gb236, 0, none⟩ (.int .i64 ((rd_T25 l0 x39_2).f0))).setCell ⟨gb236, 1, none⟩ (.int .i64 ((rd_T25 l0 x39_2).f1))).heap[gb226]? = some (.cells #[.int .i64 a2_0, .int .i64 a2_1] 25 (0, 0))) := ⟨by (with_reducible repeat (first | refine blk_drewN ?_ _ | refine blk_drew ?_ | refine blk_alloc ?_ _)); refine blk_far ?_ NB226_236.out _; (with_reducible repeat (first | refine blk_drewN ?_ _ | refine blk_drew ?_ | refine blk_alloc ?_ _)); refine blk_far ?_ NB226_236.out _; (with_reducible repeat (first | refine blk_drewN ?_ _ | refine blk_drew ?_ | refine blk_alloc ?_ _)); exact BK226.out⟩
                            have n2_ : Aside0 (((wx20211.setCell ⟨gb236, 0, none⟩ (.int .i64 ((rd_T25 l0 x39_2).f0))).setCell ⟨gb236, 1, none⟩ (.int .i64 ((rd_T25 l0 x39_2).f1))).heap[gb236]? = some (.cells #[.int .i64 ((rd_T25 l0 x39_2).f0), .int .i64 ((rd_T25 l0 x39_2).f1)] 25 (0, 0))) := ⟨by (with_reducible repeat (first | refine blk_drewN ?_ _ | refine blk_drew ?_ | refine blk_alloc ?_ _)); refine blk_put (cs := #[.int .i64 ((rd_T25 l0 x39_2).f0), .int .i64 0]) ?_ 1 _ rfl; (with_reducible repeat (first | refine blk_drewN ?_ _ | refine blk_drew ?_ | refine blk_alloc ?_ _)); refine blk_put (cs := #[.int .i64 0, .int .i64 0]) ?_ 0 _ rfl; (with_reducible repeat (first | refine blk_drewN ?_ _ | refine blk_drew ?_ | refine blk_alloc ?_ _)); exact BK236.out⟩
                            have n3_ : Aside0 (Below w.heap.size w ((wx20211.setCell ⟨gb236, 0, none⟩ (.int .i64 ((rd_T25 l0 x39_2).f0))).setCell ⟨gb236, 1, none⟩ (.int .i64 ((rd_T25 l0 x39_2).f1)))) := ⟨by repeat (first | (with_reducible first | exact HB.out | apply below_alloc | apply pw_below_drewN | apply below_drew1 | refine below_set ?_ GE225.out | refine below_set ?_ GE226.out | refine below_set ?_ GE236.out) | exact HB.out)⟩
                            (try clear BK225)
                            (try clear BK226)
                            (try clear BK236)
                            (try clear HB)
                            generalize ((wx20211.setCell ⟨gb236, 0, none⟩ (.int .i64 ((rd_T25 l0 x39_2).f0))).setCell ⟨gb236, 1, none⟩ (.int .i64 ((rd_T25 l0 x39_2).f1))) = wze1 at n0_ n1_ n2_ n3_ ⊢
                            have BK225 := n0_; have BK226 := n1_; have BK236 := n2_; have HB := n3_; clear n0_ n1_ n2_ n3_
                            have n0_ := Aside0.mk (blk_drew BK225.out)
                            have n1_ := Aside0.mk (blk_drew BK226.out)
                            have n2_ := Aside0.mk (blk_drew BK236.out)
                            have n3_ := Aside0.mk (below_drew1 HB.out)
                            clear BK225; clear BK226; clear BK236; clear HB; have BK225 := n0_; have BK226 := n1_; have BK236 := n2_; have HB := n3_; clear n0_ n1_ n2_ n3_
                            have p237 : 0 ≤ ((ji42) : Int) := of_decide_eq_true (by first | (with_reducible assumption) | assumption)
                            have q237 : (ji42) < (l0.length : Int) := of_decide_eq_true (by first | (with_reducible assumption) | assumption)
                            obtain ⟨ad237, e237, hx237_0, hx237_1⟩ := at_T25 HR0.out (ji42) p237 q237
                            have hw237_1 := hx237_1; have hw237_0 := hx237_0
                            obtain rfl : ad235 = ad237 := (by injection e237)
                            replace hx237_0 := (HB.out.cell (World.block_lt_of_cell? w _ hx237_0)).trans hx237_0
                            replace hx237_1 := (HB.out.cell (World.block_lt_of_cell? w _ hx237_1)).trans hx237_1
                            replace p237 := eq_true p237; replace q237 := eq_true q237
                            refine start_ (n := 15) (S := fun w' => w'.cell? ⟨gb225, 0, none⟩ = some (.int .i64 a1_0) ∧ w'.cell? ⟨gb225, 1, none⟩ = some (.int .i64 a1_1) ∧ w'.cell? ⟨gb226, 0, none⟩ = some (.int .i64 a2_0) ∧ w'.cell? ⟨gb226, 1, none⟩ = some (.int .i64 a2_1) ∧ w'.cell? ⟨gb236, 0, none⟩ = some (.int .i64 ((rd_T25 l0 x39_2).f0)) ∧ w'.cell? ⟨gb236, 1, none⟩ = some (.int .i64 ((rd_T25 l0 x39_2).f1)) ∧ w'.cell? (ad235.add (((ji42)).toNat * 2)) = some (.int .i64 ((rd_T25 l0 (ji42)).f0)) ∧ w'.cell? ⟨(ad235.add (((ji42)).toNat * 2)).block, (ad235.add (((ji42)).toNat * 2)).off + 1, none⟩ = some (.int .i64 ((rd_T25 l0 (ji42)).f1))) (ds := []) #[false, false, false, false, false, false, false, false, false, false, false, false, false, false, false] (by kernel_rfl) rfl rfl ⟨(blk_cell BK225.out 0).trans rfl, (blk_cell BK225.out 1).trans rfl, (blk_cell BK226.out 0).trans rfl, (blk_cell BK226.out 1).trans rfl, (blk_cell BK236.out 0).trans rfl, (blk_cell BK236.out 1).trans rfl, ((HB.out.cell (World.block_lt_of_cell? w _ hw237_0)).trans hw237_0), ((HB.out.cell (World.block_lt_of_cell? w _ hw237_1)).trans hw237_1)⟩ (fun hHeld => ?_); refine with_tabW polygon_Meets.tab16 polygon_Meets.bits16 (fun HT_ HW_ => ?_)
                            generalize wze1.drew = wze2 at BK225 BK226 BK236 HB hx237_0 hx237_1 hHeld ⊢
                            refine pure_ (i := 2) (N := some 46) (v := ?_) (a' := ?_) #[false, false, true, false, false, false, false, false, false, false, false, false, false, false, false] rfl rfl (any_of HT_.out (by kernel_rfl)) (fun _ _ _ h => h) (Or.inl ⟨by rfl, ?_⟩) ?_ ?_
                            rotate_left
                            · intro w'; go_simp; with_reducible rfl
                            rotate_left
                            · simp only [Act.put, List.setIfInBounds_toArray, List.set_cons_zero, List.set_cons_succ, i64_w, i32_w]; rfl
                            refine pure_ (i := 3) (N := some 47) (v := ?_) (a' := ?_) #[false, false, true, true, false, false, false, false, false, false, false, false, false, false, false] rfl rfl (any_of HT_.out (by kernel_rfl)) (fun _ _ _ h => h) (Or.inl ⟨by rfl, ?_⟩) ?_ ?_
                            rotate_left
                            · intro w'; go_simp; with_reducible rfl
                            rotate_left
                            · simp only [Act.put, List.setIfInBounds_toArray, List.set_cons_zero, List.set_cons_succ, i64_w, i32_w]; rfl
                            refine pure_ (i := 4) (N := some 48) (v := ?_) (a' := ?_) #[false, false, true, true, true, false, false, false, false, false, false, false, false, false, false] rfl rfl (any_of HT_.out (by kernel_rfl)) (fun _ _ _ h => h) (Or.inl ⟨by rfl, ?_⟩) ?_ ?_
                            rotate_left
                            · intro w'; go_simp; with_reducible rfl
                            rotate_left
                            · simp only [Act.put, List.setIfInBounds_toArray, List.set_cons_zero, List.set_cons_succ, i64_w, i32_w]; rfl
                            refine pure_ (i := 5) (N := some 49) (v := ?_) (a' := ?_) #[false, false, true, true, true, true, false, false, false, false, false, false, false, false, false] rfl rfl (any_of HT_.out (by kernel_rfl)) (fun _ _ _ h => h) (Or.inl ⟨by rfl, ?_⟩) ?_ ?_
                            rotate_left
                            · intro w'; go_simp; with_reducible rfl
                            rotate_left
                            · simp only [Act.put, List.setIfInBounds_toArray, List.set_cons_zero, List.set_cons_succ, i64_w, i32_w]; rfl
                            refine pure_ (i := 6) (N := some 50) (v := ?_) (a' := ?_) #[false, false, true, true, true, true, true, false, false, false, false, false, false, false, false] rfl rfl (any_of HT_.out (by kernel_rfl)) (fun _ _ _ h => h) (Or.inl ⟨by rfl, ?_⟩) ?_ ?_
                            rotate_left
                            · intro w'; go_simp; with_reducible rfl
                            rotate_left
                            · simp only [Act.put, List.setIfInBounds_toArray, List.set_cons_zero, List.set_cons_succ, i64_w, i32_w]; rfl
                            refine pure_ (i := 7) (N := some 51) (v := ?_) (a' := ?_) #[false, false, true, true, true, true, true, true, false, false, false, false, false, false, false] rfl rfl (any_of HT_.out (by kernel_rfl)) (fun _ _ _ h => h) (Or.inl ⟨by rfl, ?_⟩) ?_ ?_
                            rotate_left
                            · intro w'; go_simp; with_reducible rfl
                            rotate_left
                            · simp only [Act.put, List.setIfInBounds_toArray, List.set_cons_zero, List.set_cons_succ, i64_w, i32_w]; rfl
                            refine pure_ (i := 8) (N := some 52) (v := ?_) (a' := ?_) #[false, false, true, true, true, true, true, true, true, false, false, false, false, false, false] rfl rfl (any_of HT_.out (by kernel_rfl)) (fun _ _ _ h => h) (Or.inl ⟨by rfl, ?_⟩) ?_ ?_
                            rotate_left
                            · intro w'; go_simp; with_reducible rfl
                            rotate_left
                            · simp only [Act.put, List.setIfInBounds_toArray, List.set_cons_zero, List.set_cons_succ, i64_w, i32_w]; rfl
                            refine pure_ (i := 9) (N := some 53) (v := ?_) (a' := ?_) #[false, false, true, true, true, true, true, true, true, true, false, false, false, false, false] rfl rfl (any_of HT_.out (by kernel_rfl)) (fun _ _ _ h => h) (Or.inl ⟨by rfl, ?_⟩) ?_ ?_
                            rotate_left
                            · intro w'; go_simp; with_reducible rfl
                            rotate_left
                            · simp only [Act.put, List.setIfInBounds_toArray, List.set_cons_zero, List.set_cons_succ, i64_w, i32_w]; rfl
                            refine pure_ (i := 10) (N := some 54) (v := ?_) (a' := ?_) #[false, false, true, true, true, true, true, true, true, true, true, false, false, false, false] rfl rfl (any_of HT_.out (by kernel_rfl)) (fun _ _ _ h => h) (Or.inl ⟨by rfl, ?_⟩) ?_ ?_
                            rotate_left
                            · intro w'; go_simp; with_reducible rfl
                            rotate_left
                            · simp only [Act.put, List.setIfInBounds_toArray, List.set_cons_zero, List.set_cons_succ, i64_w, i32_w]; rfl
                            refine pure_ (i := 11) (N := some 55) (v := ?_) (a' := ?_) #[false, false, true, true, true, true, true, true, true, true, true, true, false, false, false] rfl rfl (any_of HT_.out (by kernel_rfl)) (fun _ _ _ h => h) (Or.inl ⟨by rfl, ?_⟩) ?_ ?_
                            rotate_left
                            · intro w'; go_simp; with_reducible rfl
                            rotate_left
                            · simp only [Act.put, List.setIfInBounds_toArray, List.set_cons_zero, List.set_cons_succ, i64_w, i32_w]; rfl
                            refine take_ (i := 0) (N := some 44) (v := ?_) (a' := ?_) #[true, false, true, true, true, true, true, true, true, true, true, true, false, false, false] rfl rfl (take_ofW HT_.out HW_.out (by kernel_rfl)) (fun _ _ _ h => h) (Or.inl ⟨by rfl, ?_⟩) hHeld ?_ ?_
                            rotate_left
                            · rintro w' ⟨s0, s1, s2, s3, s4, s5, s6, s7⟩
                              go_simp; with_reducible rfl
                            rotate_left
                            · simp only [Act.put, List.setIfInBounds_toArray, List.set_cons_zero, List.set_cons_succ, i64_w, i32_w]; rfl
                            refine take_ (i := 1) (N := some 45) (v := ?_) (a' := ?_) #[true, true, true, true, true, true, true, true, true, true, true, true, false, false, false] rfl rfl (take_ofW HT_.out HW_.out (by kernel_rfl)) (fun _ _ _ h => h) (Or.inl ⟨by rfl, ?_⟩) hHeld ?_ ?_
                            rotate_left
                            · rintro w' ⟨s0, s1, s2, s3, s4, s5, s6, s7⟩
                              go_simp; with_reducible rfl
                            rotate_left
                            · simp only [Act.put, List.setIfInBounds_toArray, List.set_cons_zero, List.set_cons_succ, i64_w, i32_w]; rfl
                            refine take_ (i := 12) (N := some 56) (v := ?_) (a' := ?_) #[true, true, true, true, true, true, true, true, true, true, true, true, true, false, false] rfl rfl (take_ofW HT_.out HW_.out (by kernel_rfl)) (fun _ _ _ h => h) (Or.inl ⟨by rfl, ?_⟩) hHeld ?_ ?_
                            rotate_left
                            · rintro w' ⟨s0, s1, s2, s3, s4, s5, s6, s7⟩
                              go_simp; with_reducible rfl
                            rotate_left
                            · simp only [Act.put, List.setIfInBounds_toArray, List.set_cons_zero, List.set_cons_succ, i64_w, i32_w]; rfl
                            refine take_ (i := 13) (N := some 57) (v := ?_) (a' := ?_) #[true, true, true, true, true, true, true, true, true, true, true, true, true, true, false] rfl rfl (take_ofW HT_.out HW_.out (by kernel_rfl)) (fun _ _ _ h => h) (Or.inl ⟨by rfl, ?_⟩) hHeld ?_ ?_
                            rotate_left
                            · rintro w' ⟨s0, s1, s2, s3, s4, s5, s6, s7⟩
                              go_simp; with_reducible rfl
                            rotate_left
                            · simp only [Act.put, List.setIfInBounds_toArray, List.set_cons_zero, List.set_cons_succ, i64_w, i32_w]; rfl
                            refine one_ (i := 14) (N := some 58) #[true, true, true, true, true, true, true, true, true, true, true, true, true, true, true] rfl rfl (one_of HT_.out (by kernel_rfl)) (by decide) (fun K hK => ?_)
                            refine goes_ Try.func51 (by kernel_rfl) rfl #[.agg #[.int .i64 a1_0, .int .i64 a1_1], .agg #[.int .i64 a2_0, .int .i64 a2_1], .agg #[.int .i64 ((rd_T25 l0 (ji42)).f0), .int .i64 ((rd_T25 l0 (ji42)).f1)], .agg #[.int .i64 ((rd_T25 l0 x39_2).f0), .int .i64 ((rd_T25 l0 x39_2).f1)]] (by rfl) rfl rfl (by (try simp only [List.map_toArray, List.map_cons, List.map_nil]); first | done | (simp only [hji42]; rfl) | rfl | (simp only [List.length_drop, List.length_take]; rfl)) ?_
                            with_reducible refine (polygon_Common.calls k2 a1_0 a1_1 a2_0 a2_1 ((rd_T25 l0 (ji42)).f0) ((rd_T25 l0 (ji42)).f1) ((rd_T25 l0 x39_2).f0) ((rd_T25 l0 x39_2).f1) false _ A45.out).mono ?_
                            rintro e wze3 ⟨rfl, hb⟩
                            refine ⟨_, rfl, ?_⟩
                            have n0_ := Aside0.mk (blk_below (g := gb225) (o := .cells #[.int .i64 a1_0, .int .i64 a1_1] 25 (0, 0)) (by (with_reducible repeat (first | refine blk_drewN ?_ _ | refine blk_drew ?_ | refine blk_alloc ?_ _)); exact BK225.out) hb)
                            have n1_ := Aside0.mk (blk_below (g := gb226) (o := .cells #[.int .i64 a2_0, .int .i64 a2_1] 25 (0, 0)) (by (with_reducible repeat (first | refine blk_drewN ?_ _ | refine blk_drew ?_ | refine blk_alloc ?_ _)); exact BK226.out) hb)
                            have n2_ := Aside0.mk (blk_below (g := gb236) (o := .cells #[.int .i64 ((rd_T25 l0 x39_2).f0), .int .i64 ((rd_T25 l0 x39_2).f1)] 25 (0, 0)) (by (with_reducible repeat (first | refine blk_drewN ?_ _ | refine blk_drew ?_ | refine blk_alloc ?_ _)); exact BK236.out) hb)
                            have n3_ := Aside0.mk (below_step (by repeat (first | (with_reducible first | exact HB.out | apply below_alloc | apply pw_below_drewN | apply below_drew1 | refine below_set ?_ GE225.out | refine below_set ?_ GE226.out | refine below_set ?_ GE236.out) | exact HB.out)) hb)
                            clear BK225; clear BK226; clear BK236; clear HB; have BK225 := n0_; have BK226 := n1_; have BK236 := n2_; have HB := n3_; clear n0_ n1_ n2_ n3_
                            (try clear hb)
                            (try clear hb2)
                            (try clear hk)
                            (try clear hi)
                            refine hK.out _ _ ⟨(blk_cell BK225.out 0).trans rfl, (blk_cell BK225.out 1).trans rfl, (blk_cell BK226.out 0).trans rfl, (blk_cell BK226.out 1).trans rfl, (blk_cell BK236.out 0).trans rfl, (blk_cell BK236.out 1).trans rfl, ((HB.out.cell (World.block_lt_of_cell? w _ hw237_0)).trans hw237_0), ((HB.out.cell (World.block_lt_of_cell? w _ hw237_1)).trans hw237_1)⟩ (fun hHeld => ?_)
                            clear hK K
                            refine norm_ (a' := ?_) ?_ ?_
                            rotate_left
                            · show Act.put _ (some 58) _ = _
                              simp only [Act.put, List.setIfInBounds_toArray, List.set_cons_zero, List.set_cons_succ, i64_w, i32_w]; rfl
                            refine done_ (done_of HT_.out (by kernel_rfl)) ?_
                            try go_wp2
                            first | go_roundg k2 | (subst hji42; go_roundg k2)
                            case measure => have := HK1.out; have := HK2.out; omega
                            case rel => exact ⟨(wrap64 (x39_2 + 1)), (by first | rfl | (simp; done) | (simp [*]; done)), H', ⟨by have := HK1.out; have := HK2.out; omega⟩, ⟨by (with_reducible repeat (first | refine blk_drewN ?_ _ | refine blk_drew ?_ | refine blk_alloc ?_ _)); exact BK225.out⟩, ⟨by (with_reducible repeat (first | refine blk_drewN ?_ _ | refine blk_drew ?_ | refine blk_alloc ?_ _)); exact BK226.out⟩, ⟨by repeat (first | (with_reducible first | exact HB.out | apply below_alloc | apply pw_below_drewN | apply below_drew1 | refine below_set ?_ GE225.out | refine below_set ?_ GE226.out | refine below_set ?_ GE236.out) | exact HB.out)⟩⟩
                        · rw [if_neg c44] at H
                          exact absurd H (by simp)
                      · rw [if_neg c43] at H
                        exact absurd H (by simp)
                  · rw [if_neg c40] at H
                    exact absurd H (by simp)
                · rw [if_neg c39] at H
                  exact absurd H (by simp)
              · rw [if_neg c38] at H
                have c38b0 : decide (x39_2 < (l0.length : Int)) = false := decide_eq_false c38
                clear c38
                simp only [Option.some.injEq, Prod.mk.injEq] at H
                obtain ⟨rfl, rfl⟩ := H
                go_wp2
                go_ret2
                exact ⟨by first | rfl | (simp [errW_none, errW_some] <;> rfl) | (simp [*, errW_none, errW_some] <;> rfl), by repeat (first | (with_reducible first | exact HB.out | apply below_alloc | apply pw_below_drewN | apply below_drew1 | refine below_set ?_ GE225.out | refine below_set ?_ GE226.out) | exact HB.out)⟩
       | (first | (have _hm := hm1_1) | (have _hm := hm1_2))
         go_wp2_with (first | ((with_reducible refine gate_dst (N := 10) rfl ?_); refine box_event ?hg (N := 10) ?hd (cs := #[.int .i64 0, .int .i64 0]) (t := 25) ?hr ?_; (case hd => rfl); (case hg => rfl); (case hr => first | (go_simp; done) | (go_simp; rfl)); intro gb232 hg wx40a41 hbox hb; have n0_ := Aside0.mk (Kd.R_below (Kd.R_elderB (by (with_reducible repeat (first | apply Kd.R_alloc | apply Kd.R_drewN | apply Kd.R_drew)); exact HO_21.out) gb232 (Nat.le_of_eq hg.symm)) hb); have n1_ := Aside0.mk (blk_below (g := gb225) (o := .cells #[.int .i64 a1_0, .int .i64 a1_1] 25 (0, 0)) (by (with_reducible repeat (first | refine blk_drewN ?_ _ | refine blk_drew ?_ | refine blk_alloc ?_ _)); exact BK225.out) hb); have n2_ := Aside0.mk (blk_below (g := gb226) (o := .cells #[.int .i64 a2_0, .int .i64 a2_1] 25 (0, 0)) (by (with_reducible repeat (first | refine blk_drewN ?_ _ | refine blk_drew ?_ | refine blk_alloc ?_ _)); exact BK226.out) hb); have n3_ := Aside0.mk (below_step (by repeat (first | (with_reducible first | exact HB.out | apply below_alloc | apply pw_below_drewN | apply below_drew1 | refine below_set ?_ GE225.out | refine below_set ?_ GE226.out) | exact HB.out)) hb); have n4_ := Aside0.mk (hbox); have n5_ := Aside0.mk ((by rw [hg]; exact (below_size (by repeat (first | (with_reducible first | exact HB.out | apply below_alloc | apply pw_below_drewN | apply below_drew1 | refine below_set ?_ GE225.out | refine below_set ?_ GE226.out) | exact HB.out))) : w.heap.size ≤ gb232)); have n6_ := Aside0.mk ((by rw [hg]; exact (below_size (by repeat (first | (with_reducible first | exact HB.out | apply below_alloc | apply pw_below_drewN | apply below_drew1 | refine below_set ?_ GE225.out | refine below_set ?_ GE226.out) | exact HB.out))) : w.heap.size ≤ gb232)); have n7_ := Aside0.mk ((by rw [hg]; exact Nat.ne_of_lt (blk_lt (g := gb225) (o := .cells #[.int .i64 a1_0, .int .i64 a1_1] 25 (0, 0)) (by (with_reducible repeat (first | refine blk_drewN ?_ _ | refine blk_drew ?_ | refine blk_alloc ?_ _)); exact BK225.out)) : gb225 ≠ gb232)); have n8_ := Aside0.mk ((by rw [hg]; exact Nat.ne_of_gt (blk_lt (g := gb225) (o := .cells #[.int .i64 a1_0, .int .i64 a1_1] 25 (0, 0)) (by (with_reducible repeat (first | refine blk_drewN ?_ _ | refine blk_drew ?_ | refine blk_alloc ?_ _)); exact BK225.out)) : gb232 ≠ gb225)); have n9_ := Aside0.mk ((by rw [hg]; exact Nat.ne_of_lt (blk_lt (g := gb226) (o := .cells #[.int .i64 a2_0, .int .i64 a2_1] 25 (0, 0)) (by (with_reducible repeat (first | refine blk_drewN ?_ _ | refine blk_drew ?_ | refine blk_alloc ?_ _)); exact BK226.out)) : gb226 ≠ gb232)); have n10_ := Aside0.mk ((by rw [hg]; exact Nat.ne_of_gt (blk_lt (g := gb226) (o := .cells #[.int .i64 a2_0, .int .i64 a2_1] 25 (0, 0)) (by (with_reducible repeat (first | refine blk_drewN ?_ _ | refine blk_drew ?_ | refine blk_alloc ?_ _)); exact BK226.out)) : gb232 ≠ gb226)); clear HO_21; clear BK225; clear BK226; clear HB; have HO_21 := n0_; have BK225 := n1_; have BK226 := n2_; have HB := n3_; have BK232 := n4_; have GW232 := n5_; have GE232 := n6_; have NB225_232 := n7_; have NB232_225 := n8_; have NB226_232 := n9_; have NB232_226 := n10_; clear n0_ n1_ n2_ n3_ n4_ n5_ n6_ n7_ n8_ n9_ n10_; clear hb hbox hg; have hnbx40a41 := NB232_225.out; have hncx40a41 := NB225_232.out; have hnbx40a42 := NB232_226.out; have hncx40a42 := NB226_232.out; have hczx40a41 : wx40a41.cell? ⟨gb232, 0, none⟩ = some (.int .i64 0) := (blk_cell BK232.out 0).trans rfl; have hczx40a42 : wx40a41.cell? ⟨gb232, 1, none⟩ = some (.int .i64 0) := (blk_cell BK232.out 1).trans rfl; have hfzx40a41 := blk_frozen BK232.out 0; have hfzx40a42 := blk_frozen BK232.out 1) | ((with_reducible refine gate_callee (f := 45) rfl ?_); refine goesL_ (some 28) rfl rfl Try.func45 (by kernel_rfl) rfl #[.agg #[.int .i64 ((rd_T25 y228 x23_1).f0), .int .i64 ((rd_T25 y228 x23_1).f1)]] rfl (by (try simp only [List.map_toArray, List.map_cons, List.map_nil]); first | done | rfl | (simp only [List.length_drop, List.length_take]; rfl)) ?_; (with_reducible refine (plane_Check.calls ((rd_T25 y228 x23_1).f0) ((rd_T25 y228 x23_1).f1) t233 _ A18.out).mono ?_); rintro e wxc1861 ⟨rfl, hb⟩; refine ⟨_, rfl, ?_⟩; have n0_ := Aside0.mk (Kd.R_below (by (with_reducible repeat (first | apply Kd.R_alloc | apply Kd.R_drewN | apply Kd.R_drew)); exact (Kd.R_mono (Kd.R_far (p := ⟨gb232, 1, none⟩) (Kd.R_far (p := ⟨gb232, 0, none⟩) (Kd.R_mono HO_21.out (fun k_ hk => (⟨hk, hk.2⟩ : _ ∧ k_ ≠ gb232))) (fun _ hk => hk.2) (.int .i64 ((rd_T25 y228 x23_1).f0))) (fun _ hk => hk.2) (.int .i64 ((rd_T25 y228 x23_1).f1))) (fun _ h_ => h_.1))) hb); have n1_ := Aside0.mk (blk_below (g := gb225) (o := .cells #[.int .i64 a1_0, .int .i64 a1_1] 25 (0, 0)) (by (with_reducible repeat (first | refine blk_drewN ?_ _ | refine blk_drew ?_ | refine blk_alloc ?_ _)); refine blk_far ?_ NB225_232.out _; (with_reducible repeat (first | refine blk_drewN ?_ _ | refine blk_drew ?_ | refine blk_alloc ?_ _)); refine blk_far ?_ NB225_232.out _; (with_reducible repeat (first | refine blk_drewN ?_ _ | refine blk_drew ?_ | refine blk_alloc ?_ _)); exact BK225.out) hb); have n2_ := Aside0.mk (blk_below (g := gb226) (o := .cells #[.int .i64 a2_0, .int .i64 a2_1] 25 (0, 0)) (by (with_reducible repeat (first | refine blk_drewN ?_ _ | refine blk_drew ?_ | refine blk_alloc ?_ _)); refine blk_far ?_ NB226_232.out _; (with_reducible repeat (first | refine blk_drewN ?_ _ | refine blk_drew ?_ | refine blk_alloc ?_ _)); refine blk_far ?_ NB226_232.out _; (with_reducible repeat (first | refine blk_drewN ?_ _ | refine blk_drew ?_ | refine blk_alloc ?_ _)); exact BK226.out) hb); have n3_ := Aside0.mk (blk_below (g := gb232) (o := .cells #[.int .i64 ((rd_T25 y228 x23_1).f0), .int .i64 ((rd_T25 y228 x23_1).f1)] 25 (0, 0)) (by (with_reducible repeat (first | refine blk_drewN ?_ _ | refine blk_drew ?_ | refine blk_alloc ?_ _)); refine blk_put (cs := #[.int .i64 ((rd_T25 y228 x23_1).f0), .int .i64 0]) ?_ 1 _ rfl; (with_reducible repeat (first | refine blk_drewN ?_ _ | refine blk_drew ?_ | refine blk_alloc ?_ _)); refine blk_put (cs := #[.int .i64 0, .int .i64 0]) ?_ 0 _ rfl; (with_reducible repeat (first | refine blk_drewN ?_ _ | refine blk_drew ?_ | refine blk_alloc ?_ _)); exact BK232.out) hb); have n4_ := Aside0.mk (below_step (by repeat (first | (with_reducible first | exact HB.out | apply below_alloc | apply pw_below_drewN | apply below_drew1 | refine below_set ?_ GE225.out | refine below_set ?_ GE226.out | refine below_set ?_ GE232.out) | exact HB.out)) hb); clear HO_21; clear BK225; clear BK226; clear BK232; clear HB; have HO_21 := n0_; have BK225 := n1_; have BK226 := n2_; have BK232 := n3_; have HB := n4_; clear n0_ n1_ n2_ n3_ n4_; (try clear hb); (try clear hb2); (try clear hk); (try clear hi)) | ((with_reducible refine gate_callee (f := 46) rfl ?_); refine goesL_ (some 35) rfl rfl Try.func46 (by kernel_rfl) rfl #[.slice A0 l0.length c0, .agg #[.int .i64 a1_0, .int .i64 a1_1]] rfl (by (try simp only [List.map_toArray, List.map_cons, List.map_nil]); first | done | rfl | (simp only [List.length_drop, List.length_take]; rfl)) ?_; (with_reducible refine (polygon_locate.calls k1 _ _ l0 a1_0 a1_1 t234 _ ?side1 ?side2 A30.out).mono ?_); (case side1 => repeat (first | exact (Kd.C_below HR0.out HB.out) | (with_reducible refine Kd.C_alloc ?_ _) | (with_reducible refine Kd.C_drewN ?_ _) | (with_reducible refine Kd.C_drew ?_))); (case side2 => exact HC0.out); rintro e wxb8441 ⟨rfl, hb⟩; refine ⟨_, rfl, ?_⟩; have n0_ := Aside0.mk (Kd.R_below (by (with_reducible repeat (first | apply Kd.R_alloc | apply Kd.R_drewN | apply Kd.R_drew)); exact HO_21.out) hb); have n1_ := Aside0.mk (blk_below (g := gb225) (o := .cells #[.int .i64 a1_0, .int .i64 a1_1] 25 (0, 0)) (by (with_reducible repeat (first | refine blk_drewN ?_ _ | refine blk_drew ?_ | refine blk_alloc ?_ _)); exact BK225.out) hb); have n2_ := Aside0.mk (blk_below (g := gb226) (o := .cells #[.int .i64 a2_0, .int .i64 a2_1] 25 (0, 0)) (by (with_reducible repeat (first | refine blk_drewN ?_ _ | refine blk_drew ?_ | refine blk_alloc ?_ _)); exact BK226.out) hb); have n3_ := Aside0.mk (below_step (by repeat (first | (with_reducible first | exact HB.out | apply below_alloc | apply pw_below_drewN | apply below_drew1 | refine below_set ?_ GE225.out | refine below_set ?_ GE226.out) | exact HB.out)) hb); clear HO_21; clear BK225; clear BK226; clear HB; have HO_21 := n0_; have BK225 := n1_; have BK226 := n2_; have HB := n3_; clear n0_ n1_ n2_ n3_; (try clear hb); (try clear hb2); (try clear hk); (try clear hi)))
         go_ret2
         first
          | clear hm1_1
            exact ⟨by first | rfl | (simp [errW_none, errW_some] <;> rfl) | (simp [*, errW_none, errW_some] <;> rfl), by repeat (first | (with_reducible first | exact HB.out | apply below_alloc | apply pw_below_drewN | apply below_drew1 | refine below_set ?_ GE225.out | refine below_set ?_ GE226.out | refine below_set ?_ GE232.out) | exact HB.out)⟩
          | clear hm1_2
            exact ⟨by first | rfl | (simp [errW_none, errW_some] <;> rfl) | (simp [*, errW_none, errW_some] <;> rfl), by repeat (first | (with_reducible first | exact HB.out | apply below_alloc | apply pw_below_drewN | apply below_drew1 | refine below_set ?_ GE225.out | refine below_set ?_ GE226.out) | exact HB.out)⟩
 · rw [if_neg c5] at H
   have c5b0 : (t227 == 0) = false := beq_eq_false_iff_ne.mpr c5
   have c5b1 : (t227 != 0) = true := bne_iff_ne.mpr c5
   simp only [Option.some.injEq, Prod.mk.injEq] at H
   obtain ⟨rfl, rfl⟩ := H
   go_enter Try.func24, Try.ntmps24
   go_wp2_with (first | ((with_reducible refine gate_dst (N := 4) rfl ?_); refine box_event ?hg (N := 4) ?hd (cs := #[.int .i64 a1_0, .int .i64 a1_1]) (t := 25) ?hr ?_; (case hd => rfl); (case hg => rfl); (case hr => first | (go_simp; done) | (go_simp; rfl)); intro gb225 hg wx96341 hbox hb; have n0_ := Aside0.mk (below_step (by repeat (first | (with_reducible first | exact HB.out | apply below_alloc | apply pw_below_drewN | apply below_drew1) | exact HB.out)) hb); have n1_ := Aside0.mk (hbox); have n2_ := Aside0.mk ((by rw [hg]; exact (below_size (by repeat (first | (with_reducible first | exact HB.out | apply below_alloc | apply pw_below_drewN | apply below_drew1) | exact HB.out))) : w.heap.size ≤ gb225)); have n3_ := Aside0.mk ((by rw [hg]; exact (below_size (by repeat (first | (with_reducible first | exact HB.out | apply below_alloc | apply pw_below_drewN | apply below_drew1) | exact HB.out))) : w.heap.size ≤ gb225)); clear HB; have HB := n0_; have BK225 := n1_; have GW225 := n2_; have GE225 := n3_; clear n0_ n1_ n2_ n3_; clear hb hbox hg) | ((with_reducible refine gate_dst (N := 5) rfl ?_); refine box_event ?hg (N := 5) ?hd (cs := #[.int .i64 a2_0, .int .i64 a2_1]) (t := 25) ?hr ?_; (case hd => rfl); (case hg => rfl); (case hr => first | (go_simp; done) | (go_simp; rfl)); intro gb226 hg wx33571 hbox hb; have n0_ := Aside0.mk (blk_below (g := gb225) (o := .cells #[.int .i64 a1_0, .int .i64 a1_1] 25 (0, 0)) (by (with_reducible repeat (first | refine blk_drewN ?_ _ | refine blk_drew ?_ | refine blk_alloc ?_ _)); exact BK225.out) hb); have n1_ := Aside0.mk (below_step (by repeat (first | (with_reducible first | exact HB.out | apply below_alloc | apply pw_below_drewN | apply below_drew1 | refine below_set ?_ GE225.out) | exact HB.out)) hb); have n2_ := Aside0.mk (hbox); have n3_ := Aside0.mk ((by rw [hg]; exact (below_size (by repeat (first | (with_reducible first | exact HB.out | apply below_alloc | apply pw_below_drewN | apply below_drew1 | refine below_set ?_ GE225.out) | exact HB.out))) : w.heap.size ≤ gb226)); have n4_ := Aside0.mk ((by rw [hg]; exact (below_size (by repeat (first | (with_reducible first | exact HB.out | apply below_alloc | apply pw_below_drewN | apply below_drew1 | refine below_set ?_ GE225.out) | exact HB.out))) : w.heap.size ≤ gb226)); have n5_ := Aside0.mk ((by rw [hg]; exact Nat.ne_of_lt (blk_lt (g := gb225) (o := .cells #[.int .i64 a1_0, .int .i64 a1_1] 25 (0, 0)) (by (with_reducible repeat (first | refine blk_drewN ?_ _ | refine blk_drew ?_ | refine blk_alloc ?_ _)); exact BK225.out)) : gb225 ≠ gb226)); have n6_ := Aside0.mk ((by rw [hg]; exact Nat.ne_of_gt (blk_lt (g := gb225) (o := .cells #[.int .i64 a1_0, .int .i64 a1_1] 25 (0, 0)) (by (with_reducible repeat (first | refine blk_drewN ?_ _ | refine blk_drew ?_ | refine blk_alloc ?_ _)); exact BK225.out)) : gb226 ≠ gb225)); clear BK225; clear HB; have BK225 := n0_; have HB := n1_; have BK226 := n2_; have GW226 := n3_; have GE226 := n4_; have NB225_226 := n5_; have NB226_225 := n6_; clear n0_ n1_ n2_ n3_ n4_ n5_ n6_; clear hb hbox hg) | ((with_reducible refine gate_callee (f := 44) rfl ?_); refine goesL_ (some 15) rfl rfl Try.func44 (by kernel_rfl) rfl #[.slice A0 l0.length c0] rfl (by (try simp only [List.map_toArray, List.map_cons, List.map_nil]); first | done | rfl | (simp only [List.length_drop, List.length_take]; rfl)) ?_; (with_reducible refine (polygon_Check.calls k _ _ l0 t227 _ ?side1 ?side2 A4.out).mono ?_); (case side1 => repeat (first | exact (Kd.C_below HR0.out HB.out) | (with_reducible refine Kd.C_alloc ?_ _) | (with_reducible refine Kd.C_drewN ?_ _) | (with_reducible refine Kd.C_drew ?_))); (case side2 => exact HC0.out); rintro e wxc0d61 ⟨rfl, hb⟩; refine ⟨_, rfl, ?_⟩; have n0_ := Aside0.mk (blk_below (g := gb225) (o := .cells #[.int .i64 a1_0, .int .i64 a1_1] 25 (0, 0)) (by (with_reducible repeat (first | refine blk_drewN ?_ _ | refine blk_drew ?_ | refine blk_alloc ?_ _)); exact BK225.out) hb); have n1_ := Aside0.mk (blk_below (g := gb226) (o := .cells #[.int .i64 a2_0, .int .i64 a2_1] 25 (0, 0)) (by (with_reducible repeat (first | refine blk_drewN ?_ _ | refine blk_drew ?_ | refine blk_alloc ?_ _)); exact BK226.out) hb); have n2_ := Aside0.mk (below_step (by repeat (first | (with_reducible first | exact HB.out | apply below_alloc | apply pw_below_drewN | apply below_drew1 | refine below_set ?_ GE225.out | refine below_set ?_ GE226.out) | exact HB.out)) hb); clear BK225; clear BK226; clear HB; have BK225 := n0_; have BK226 := n1_; have HB := n2_; clear n0_ n1_ n2_; (try clear hb); (try clear hb2); (try clear hk); (try clear hi)))
   go_ret2
   exact ⟨by first | rfl | (simp [errW_none, errW_some] <;> rfl) | (simp [*, errW_none, errW_some] <;> rfl), by repeat (first | (with_reducible first | exact HB.out | apply below_alloc | apply pw_below_drewN | apply below_drew1 | refine below_set ?_ GE225.out | refine below_set ?_ GE226.out) | exact HB.out)⟩

end Go.Proofs.Yteaddpieonkboaa.PPolygonMeets
