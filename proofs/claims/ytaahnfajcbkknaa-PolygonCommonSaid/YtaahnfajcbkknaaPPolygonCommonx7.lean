/- Made by a program of this session (wip/tools/myprint.py, over the kit's printer): that the Go functions answer as the Lean functions printed beside them. -/
import Derived.Test.YtaahnfajcbkknaaPPolygonCommonx0
import Derived.Test.YtaahnfajcbkknaaPPolygonCommonx1
import Derived.Test.YtaahnfajcbkknaaPPolygonCommonx2
import Derived.Test.YtaahnfajcbkknaaPPolygonCommonx4
import Derived.Test.YtaahnfajcbkknaaPPolygonCommonx5
import Derived.Test.YtaahnfajcbkknaaPPolygonCommonx6
namespace Go.Proofs.Ytaahnfajcbkknaa.PPolygonCommon
open Go.RowKit Go.Proofs.YtaahnfajcbkknaaW.PrintWords Go.Proofs.YtaahnfajcbkknaaW.PrintLast Go.Proofs.YtaahnfajcbkknaaW.PrintMore
attribute [local go_sem] max2_int min2_int max_two min_two max_three min_three max_four min_four   -- for this text's walks alone
set_option linter.unusedVariables false
set_option linter.unusedSimpArgs false

/-! ### polygon_Apart: function 60 -/
mutual
def polygon_Apart.j0 : Nat → List (S37) → Int → Bool → Int → Int → Option (Bool × Int)
  | 0, _, _, _, _, _ => none
  | k + 1, x0, x2, x27, x211000, x211001 => if x27 = true then (some (false, 4)) else ((polygon_locate.f k x0 x211000 x211001).bind fun t213 => (if t213 ≥ 0 then (some (false, 0)) else (polygon_Apart.l0 k x0 x2 x0 (x0.length : Int) 0 x211000 x211001)))
def polygon_Apart.l0 : Nat → List (S37) → Int → List (S37) → Int → Int → Int → Int → Option (Bool × Int)
  | 0, _, _, _, _, _, _, _ => none
  | k + 1, x0, x2, x32, x33, x34, x211000, x211001 => if x34 < x33 then (if 0 ≤ x34 then (if x34 < (x32.length : Int) then (if (x0.length : Int) = 0 then (none) else (if 0 ≤ (Int.tmod (wrap64 ((wrap64 (x34 + (x0.length : Int))) - 1)) (x0.length : Int)) then (if (Int.tmod (wrap64 ((wrap64 (x34 + (x0.length : Int))) - 1)) (x0.length : Int)) < (x0.length : Int) then ((polygon_near.f ((rd_T37 x0 (Int.tmod (wrap64 ((wrap64 (x34 + (x0.length : Int))) - 1)) (x0.length : Int))).f0) ((rd_T37 x0 (Int.tmod (wrap64 ((wrap64 (x34 + (x0.length : Int))) - 1)) (x0.length : Int))).f1) ((rd_T37 x32 x34).f0) ((rd_T37 x32 x34).f1) x211000 x211001 x2).bind fun t217 => (if t217 = true then (some (false, 0)) else (polygon_Apart.l0 k x0 x2 x32 x33 (wrap64 (x34 + 1)) x211000 x211001))) else (none)) else (none))) else (none)) else (none)) else (some (true, 0))
end
def polygon_Apart.f (k : Nat) (l0 : List (S37)) (a1_0 : Int) (a1_1 : Int) (a2 : Int) : Option (Bool × Int) := (polygon_Check.f k l0).bind fun t211 => (if t211 = 0 then ((plane_Check.f a1_0 a1_1).bind fun t212 => (if t212 = 0 then (if a2 < 0 then (polygon_Apart.j0 k l0 a2 true a1_0 a1_1) else (polygon_Apart.j0 k l0 a2 (decide (a2 > 1000000)) a1_0 a1_1)) else (some (false, t212)))) else (some (false, t211)))
theorem polygon_Apart.mono_l : ∀ k, (∀ y0 y1 y2 y3 y4, LeO (polygon_Apart.j0 k y0 y1 y2 y3 y4) (polygon_Apart.j0 (k + 1) y0 y1 y2 y3 y4)) ∧ (∀ y0 y1 y2 y3 y4 y5 y6, LeO (polygon_Apart.l0 k y0 y1 y2 y3 y4 y5 y6) (polygon_Apart.l0 (k + 1) y0 y1 y2 y3 y4 y5 y6))
  | 0 => ⟨fun _ _ _ _ _ r h => by simp [polygon_Apart.j0] at h, fun _ _ _ _ _ _ _ r h => by simp [polygon_Apart.l0] at h⟩
  | k + 1 => by
    obtain ⟨ih0, ih1⟩ := polygon_Apart.mono_l k
    refine ⟨?_, ?_⟩
    · intro y0 y1 y2 y3 y4
      unfold polygon_Apart.j0
      repeat' first
      | (with_reducible exact ih0 _ _ _ _ _)
      | (with_reducible exact ih1 _ _ _ _ _ _ _)
      | (with_reducible exact polygon_Check.mono _ _)
      | (with_reducible exact polygon_locate.mono _ _ _ _)
      | (with_reducible exact LeO.refl _)
      | (with_reducible exact LeO.none _)
      | (with_reducible refine LeO.ite ?_ ?_)
      | (with_reducible refine LeO.bind ?_ (fun _ => ?_))
      | exact ih0 _ _ _ _ _
      | exact ih1 _ _ _ _ _ _ _
      | exact polygon_Check.mono _ _
      | exact polygon_locate.mono _ _ _ _
      | exact LeO.none _
      | refine LeO.ite ?_ ?_
      | refine LeO.bind ?_ (fun _ => ?_)
    · intro y0 y1 y2 y3 y4 y5 y6
      unfold polygon_Apart.l0
      repeat' first
      | (with_reducible exact ih0 _ _ _ _ _)
      | (with_reducible exact ih1 _ _ _ _ _ _ _)
      | (with_reducible exact polygon_Check.mono _ _)
      | (with_reducible exact polygon_locate.mono _ _ _ _)
      | (with_reducible exact LeO.refl _)
      | (with_reducible exact LeO.none _)
      | (with_reducible refine LeO.ite ?_ ?_)
      | (with_reducible refine LeO.bind ?_ (fun _ => ?_))
      | exact ih0 _ _ _ _ _
      | exact ih1 _ _ _ _ _ _ _
      | exact polygon_Check.mono _ _
      | exact polygon_locate.mono _ _ _ _
      | exact LeO.none _
      | refine LeO.ite ?_ ?_
      | refine LeO.bind ?_ (fun _ => ?_)
theorem polygon_Apart.mono : ∀ a0 a1 a2 a3 k, LeO (polygon_Apart.f k a0 a1 a2 a3) (polygon_Apart.f (k + 1) a0 a1 a2 a3) := by
  intro a0 a1 a2 a3 k
  obtain ⟨ih0, ih1⟩ := polygon_Apart.mono_l k
  unfold polygon_Apart.f
  repeat' first
      | (with_reducible exact ih0 _ _ _ _ _)
      | (with_reducible exact ih1 _ _ _ _ _ _ _)
      | (with_reducible exact polygon_Check.mono _ _)
      | (with_reducible exact polygon_locate.mono _ _ _ _)
      | (with_reducible exact LeO.refl _)
      | (with_reducible exact LeO.none _)
      | (with_reducible refine LeO.ite ?_ ?_)
      | (with_reducible refine LeO.bind ?_ (fun _ => ?_))
      | exact ih0 _ _ _ _ _
      | exact ih1 _ _ _ _ _ _ _
      | exact polygon_Check.mono _ _
      | exact polygon_locate.mono _ _ _ _
      | exact LeO.none _
      | refine LeO.ite ?_ ?_
      | refine LeO.bind ?_ (fun _ => ?_)
def polygon_Apart.T14 : Bool × List (List Nat × List Nat) := (true, [([], []), ([], []), ([], []), ([2], [2]), ([1, 3], [1, 3]), ([4], [4]), ([], []), ([6], [6]), ([5, 7], [5, 7]), ([0, 8], [0, 8]), ([9], [9]), ([], []), ([], []), ([], []), ([10, 11, 12, 13], [10, 11, 12, 13])])
def polygon_Apart.B14 : List Nat := [0, 0, 0, 4, 14, 30, 0, 64, 254, 511, 1023, 0, 0, 0, 16383]
theorem polygon_Apart.tab14 : rtab .any (opsOf Try.f60 14) = polygon_Apart.T14 := by kernel_rfl
theorem polygon_Apart.bits14 : waitsOk polygon_Apart.T14.2 polygon_Apart.B14 = true := by kernel_rfl
set_option maxHeartbeats 8000000 in
set_option maxRecDepth 100000 in
theorem polygon_Apart.calls (k : Nat) (A0 : Option Addr) (c0 : Nat) (l0 : List (S37)) (a1_0 : Int) (a1_1 : Int) (a2 : Int) (r1 : Bool) (r2 : Int) (w : World) (hr0 : Kd.C k37 w A0 l0.length l0) (hc0 : l0.length ≤ c0) (h : polygon_Apart.f k l0 a1_0 a1_1 a2 = some (r1, r2)) :
    Calls Try.prog 60 #[.slice A0 l0.length c0, .agg #[.int .i64 a1_0, .int .i64 a1_1], .int .i64 a2] w fun e w' => e = .returned (.tuple #[.bool r1, .int .i64 r2]) ∧ Below w.heap.size w w' := by
 have hu37 := Try.underlying37
 have HR0 := Aside0.mk hr0
 have HC0 := Aside0.mk hc0
 clear hr0 hc0
 have HB := Aside0.mk (Below.refl w.heap.size w)
 have H : ((polygon_Check.f k l0).bind fun t211 => (if t211 = 0 then ((plane_Check.f a1_0 a1_1).bind fun t212 => (if t212 = 0 then (if a2 < 0 then (polygon_Apart.j0 k l0 a2 true a1_0 a1_1) else (polygon_Apart.j0 k l0 a2 (decide (a2 > 1000000)) a1_0 a1_1)) else (some (false, t212)))) else (some (false, t211)))) = some (r1, r2) := h
 clear h
 replace H := Option.bind_eq_some_iff.mp H
 obtain ⟨t211, A40, H⟩ := H
 replace H : (if t211 = 0 then ((plane_Check.f a1_0 a1_1).bind fun t212 => (if t212 = 0 then (if a2 < 0 then (polygon_Apart.j0 k l0 a2 true a1_0 a1_1) else (polygon_Apart.j0 k l0 a2 (decide (a2 > 1000000)) a1_0 a1_1)) else (some (false, t212)))) else (some (false, t211))) = some (r1, r2) := H
 have A4 := Aside0.mk A40
 clear A40
 refine Or.elim (Classical.em (t211 = 0)) (fun c5 => ?p2_) (fun c5 => ?n2_)
 case' p2_ =>
  rw [if_pos c5] at H
  have c5b0 : (t211 == 0) = true := beq_iff_eq.mpr c5
  have c5b1 : (t211 != 0) = false := bne_eq_false_iff_eq.mpr c5
  clear c5
  replace H := Option.bind_eq_some_iff.mp H
  obtain ⟨t212, A60, H⟩ := H
  replace H : (if t212 = 0 then (if a2 < 0 then (polygon_Apart.j0 k l0 a2 true a1_0 a1_1) else (polygon_Apart.j0 k l0 a2 (decide (a2 > 1000000)) a1_0 a1_1)) else (some (false, t212))) = some (r1, r2) := H
  have A6 := Aside0.mk A60
  clear A60
  refine Or.elim (Classical.em (t212 = 0)) (fun c7 => ?p3_) (fun c7 => ?n3_)
  case' p3_ =>
   rw [if_pos c7] at H
   have c7b0 : (t212 == 0) = true := beq_iff_eq.mpr c7
   have c7b1 : (t212 != 0) = false := bne_eq_false_iff_eq.mpr c7
   clear c7
   have HC8 := Aside0.mk H
   clear H
   have hm1_0 := Aside0.mk trivial
  case' n3_ =>
   rw [if_neg c7] at H
   have c7b0 : (t212 == 0) = false := beq_eq_false_iff_ne.mpr c7
   have c7b1 : (t212 != 0) = true := bne_iff_ne.mpr c7
   simp only [Option.some.injEq, Prod.mk.injEq] at H
   obtain ⟨rfl, rfl⟩ := H
   have hm1_1 := Aside0.mk trivial
 case' n2_ =>
  rw [if_neg c5] at H
  have c5b0 : (t211 == 0) = false := beq_eq_false_iff_ne.mpr c5
  have c5b1 : (t211 != 0) = true := bne_iff_ne.mpr c5
  simp only [Option.some.injEq, Prod.mk.injEq] at H
  obtain ⟨rfl, rfl⟩ := H
  have hm1_1 := Aside0.mk trivial
 all_goals
  go_enter Try.func60, Try.ntmps60
  first
   | clear hm1_0
     go_upto_region 7 with (first | ((with_reducible refine gate_dst (N := 4) rfl ?_); refine box_event ?hg (N := 4) ?hd (cs := #[.int .i64 a1_0, .int .i64 a1_1]) (t := 37) ?hr ?_; (case hd => rfl); (case hg => rfl); (case hr => first | (go_simp; done) | (go_simp; rfl)); intro gb210 hg wx32071 hbox hb; have n0_ := Aside0.mk (below_step (by repeat (first | (with_reducible first | exact HB.out | apply below_alloc | apply pw_below_drewN | apply below_drew1) | exact HB.out)) hb); have n1_ := Aside0.mk (hbox); have n2_ := Aside0.mk ((by rw [hg]; exact (below_size (by repeat (first | (with_reducible first | exact HB.out | apply below_alloc | apply pw_below_drewN | apply below_drew1) | exact HB.out))) : w.heap.size ≤ gb210)); have n3_ := Aside0.mk ((by rw [hg]; exact (below_size (by repeat (first | (with_reducible first | exact HB.out | apply below_alloc | apply pw_below_drewN | apply below_drew1) | exact HB.out))) : w.heap.size ≤ gb210)); clear HB; have HB := n0_; have BK210 := n1_; have GW210 := n2_; have GE210 := n3_; clear n0_ n1_ n2_ n3_; clear hb hbox hg) | ((with_reducible refine gate_callee (f := 70) rfl ?_); refine goesL_ (some 13) rfl rfl Try.func70 (by kernel_rfl) rfl #[.slice A0 l0.length c0] rfl (by (try simp only [List.map_toArray, List.map_cons, List.map_nil]); first | done | rfl | (simp only [List.length_drop, List.length_take]; rfl)) ?_; (with_reducible refine (polygon_Check.calls k _ _ l0 t211 _ ?side1 ?side2 A4.out).mono ?_); (case side1 => repeat (first | exact (Kd.C_below HR0.out HB.out) | (with_reducible refine Kd.C_alloc ?_ _) | (with_reducible refine Kd.C_drewN ?_ _) | (with_reducible refine Kd.C_drew ?_))); (case side2 => exact HC0.out); rintro e wx67e11 ⟨rfl, hb⟩; refine ⟨_, rfl, ?_⟩; have n0_ := Aside0.mk (blk_below (g := gb210) (o := .cells #[.int .i64 a1_0, .int .i64 a1_1] 37 (0, 0)) (by (with_reducible repeat (first | refine blk_drewN ?_ _ | refine blk_drew ?_ | refine blk_alloc ?_ _)); exact BK210.out) hb); have n1_ := Aside0.mk (below_step (by repeat (first | (with_reducible first | exact HB.out | apply below_alloc | apply pw_below_drewN | apply below_drew1 | refine below_set ?_ GE210.out) | exact HB.out)) hb); clear BK210; clear HB; have BK210 := n0_; have HB := n1_; clear n0_ n1_; (try clear hb); (try clear hb2); (try clear hk); (try clear hi); have hczx67e11 : wx67e11.cell? ⟨gb210, 0, none⟩ = some (.int .i64 a1_0) := (blk_cell BK210.out 0).trans rfl; have hczx67e12 : wx67e11.cell? ⟨gb210, 1, none⟩ = some (.int .i64 a1_1) := (blk_cell BK210.out 1).trans rfl; have hfzx67e11 := blk_frozen BK210.out 0; have hfzx67e12 := blk_frozen BK210.out 1) | ((with_reducible refine gate_callee (f := 56) rfl ?_); refine goesL_ (some 18) rfl rfl Try.func56 (by kernel_rfl) rfl #[.agg #[.int .i64 a1_0, .int .i64 a1_1]] rfl (by (try simp only [List.map_toArray, List.map_cons, List.map_nil]); first | done | rfl | (simp only [List.length_drop, List.length_take]; rfl)) ?_; (with_reducible refine (plane_Check.calls a1_0 a1_1 t212 _ A6.out).mono ?_); rintro e wxd2b11 ⟨rfl, hb⟩; refine ⟨_, rfl, ?_⟩; have n0_ := Aside0.mk (blk_below (g := gb210) (o := .cells #[.int .i64 a1_0, .int .i64 a1_1] 37 (0, 0)) (by (with_reducible repeat (first | refine blk_drewN ?_ _ | refine blk_drew ?_ | refine blk_alloc ?_ _)); exact BK210.out) hb); have n1_ := Aside0.mk (below_step (by repeat (first | (with_reducible first | exact HB.out | apply below_alloc | apply pw_below_drewN | apply below_drew1 | refine below_set ?_ GE210.out) | exact HB.out)) hb); clear BK210; clear HB; have BK210 := n0_; have HB := n1_; clear n0_ n1_; (try clear hb); (try clear hb2); (try clear hk); (try clear hi)))
     (try simp only [Act.put, List.setIfInBounds_toArray, List.set_cons_zero, List.set_cons_succ])
     go_cut [27] (fun v27 wc => ∃ (kq : Nat) (x27_7 : Bool), v27 = .bool x27_7 ∧ Aside0 (polygon_Apart.j0 kq l0 a2 x27_7 a1_0 a1_1 = some (r1, r2)) ∧ Aside0 (kq ≤ k) ∧ Aside0 (wc.heap[gb210]? = some (.cells #[.int .i64 a1_0, .int .i64 a1_1] 37 (0, 0))) ∧ Aside0 (Below w.heap.size w wc))
     case first =>
      have H := HC8.out
      clear HC8
      refine Or.elim (Classical.em (a2 < 0)) (fun c13 => ?p5_) (fun c13 => ?n5_)
      case' p5_ =>
       rw [if_pos c13] at H
       have c13b0 : decide (a2 < 0) = true := decide_eq_true c13
       clear c13
       (first | rw [c13b0] | (simp only [i64_w, i32_w]; rw [c13b0]) | skip)
      case' n5_ =>
       rw [if_neg c13] at H
       have c13b0 : decide (a2 < 0) = false := decide_eq_false c13
       clear c13
       (first | rw [c13b0] | (simp only [i64_w, i32_w]; rw [c13b0]) | skip)
      all_goals
       have H' := Aside0.mk H
       clear H
       go_wp2
       go_meet
       case rel => first | (exact ⟨_, (true), (by first | rfl | (simp; done) | (simp [*]; done)), H', ⟨by first | omega | exact Nat.le_refl _⟩, ⟨by (with_reducible repeat (first | refine blk_drewN ?_ _ | refine blk_drew ?_ | refine blk_alloc ?_ _)); exact BK210.out⟩, ⟨by repeat (first | (with_reducible first | exact HB.out | apply below_alloc | apply pw_below_drewN | apply below_drew1 | refine below_set ?_ GE210.out) | exact HB.out)⟩⟩) | (exact ⟨_, (decide (a2 > 1000000)), (by first | rfl | (simp; done) | (simp [*]; done)), H', ⟨by first | omega | exact Nat.le_refl _⟩, ⟨by (with_reducible repeat (first | refine blk_drewN ?_ _ | refine blk_drew ?_ | refine blk_alloc ?_ _)); exact BK210.out⟩, ⟨by repeat (first | (with_reducible first | exact HB.out | apply below_alloc | apply pw_below_drewN | apply below_drew1 | refine below_set ?_ GE210.out) | exact HB.out)⟩⟩)
     case rest =>
      clear HC8
      (try clear c1); (try clear p2); (try clear c5); (try clear c5b0); (try clear c5b1); (try clear c6); (try clear c7); (try clear c7b0); (try clear c7b1); (try clear c13); (try clear c13b0); (try clear hczx67e11); (try clear hczx67e12); (try clear hfzx67e11); (try clear hfzx67e12)
      obtain ⟨kq, x27_7, rfl, HA, HJ7, BK210, HB⟩ := hcut
      cases kq with
      | zero => exact absurd HA.out (by simp [polygon_Apart.j0])
      | succ kj7 =>
       have H := HA.out
       clear HA
       simp only [polygon_Apart.j0] at H
       by_cases c14 : x27_7 = true
       · subst c14
         have H1 : (some (false, 4)) = some (r1, r2) := by rw [if_pos rfl] at H; exact H
         clear H
         have H := H1
         clear H1
         simp only [Option.some.injEq, Prod.mk.injEq] at H
         obtain ⟨rfl, rfl⟩ := H
         go_wp2
         go_ret2
         exact ⟨by first | rfl | (simp [errW_none, errW_some] <;> rfl) | (simp [*, errW_none, errW_some] <;> rfl), by repeat (first | (with_reducible first | exact HB.out | apply below_alloc | apply pw_below_drewN | apply below_drew1 | refine below_set ?_ GE210.out) | exact HB.out)⟩
       · replace c14 := Bool.eq_false_iff.mpr c14
         subst c14
         have H1 : ((polygon_locate.f kj7 l0 a1_0 a1_1).bind fun t213 => (if t213 ≥ 0 then (some (false, 0)) else (polygon_Apart.l0 kj7 l0 a2 l0 (l0.length : Int) 0 a1_0 a1_1))) = some (r1, r2) := by rw [if_neg (show ¬ (false = true) by decide)] at H; exact H
         clear H
         have H := H1
         clear H1
         replace H := Option.bind_eq_some_iff.mp H
         obtain ⟨t213, A150, H⟩ := H
         replace H : (if t213 ≥ 0 then (some (false, 0)) else (polygon_Apart.l0 kj7 l0 a2 l0 (l0.length : Int) 0 a1_0 a1_1)) = some (r1, r2) := H
         have A15 := Aside0.mk A150
         clear A150
         by_cases c16 : t213 ≥ 0
         · rw [if_pos c16] at H
           have c16b0 : decide (0 ≤ t213) = true := decide_eq_true c16
           clear c16
           simp only [Option.some.injEq, Prod.mk.injEq] at H
           obtain ⟨rfl, rfl⟩ := H
           have hczza1 : wc.cell? ⟨gb210, 0, none⟩ = some (.int .i64 a1_0) := (blk_cell BK210.out 0).trans rfl
           have hczza2 : wc.cell? ⟨gb210, 1, none⟩ = some (.int .i64 a1_1) := (blk_cell BK210.out 1).trans rfl
           have hfzza1 := blk_frozen BK210.out 0
           have hfzza2 := blk_frozen BK210.out 1
           go_wp2_with (first | ((with_reducible refine gate_callee (f := 71) rfl ?_); refine goesL_ (some 30) rfl rfl Try.func71 (by kernel_rfl) rfl #[.slice A0 l0.length c0, .agg #[.int .i64 a1_0, .int .i64 a1_1]] rfl (by (try simp only [List.map_toArray, List.map_cons, List.map_nil]); first | done | rfl | (simp only [List.length_drop, List.length_take]; rfl)) ?_; (with_reducible refine (polygon_locate.calls kj7 _ _ l0 a1_0 a1_1 t213 _ ?side1 ?side2 A15.out).mono ?_); (case side1 => repeat (first | exact (Kd.C_below HR0.out HB.out) | (with_reducible refine Kd.C_alloc ?_ _) | (with_reducible refine Kd.C_drewN ?_ _) | (with_reducible refine Kd.C_drew ?_))); (case side2 => exact HC0.out); rintro e wxb0f01 ⟨rfl, hb⟩; refine ⟨_, rfl, ?_⟩; have n0_ := Aside0.mk (blk_below (g := gb210) (o := .cells #[.int .i64 a1_0, .int .i64 a1_1] 37 (0, 0)) (by (with_reducible repeat (first | refine blk_drewN ?_ _ | refine blk_drew ?_ | refine blk_alloc ?_ _)); exact BK210.out) hb); have n1_ := Aside0.mk (below_step (by repeat (first | (with_reducible first | exact HB.out | apply below_alloc | apply pw_below_drewN | apply below_drew1 | refine below_set ?_ GE210.out) | exact HB.out)) hb); clear BK210; clear HB; have BK210 := n0_; have HB := n1_; clear n0_ n1_; (try clear hb); (try clear hb2); (try clear hk); (try clear hi)))
           go_ret2
           exact ⟨by first | rfl | (simp [errW_none, errW_some] <;> rfl) | (simp [*, errW_none, errW_some] <;> rfl), by repeat (first | (with_reducible first | exact HB.out | apply below_alloc | apply pw_below_drewN | apply below_drew1 | refine below_set ?_ GE210.out) | exact HB.out)⟩
         · rw [if_neg c16] at H
           have c16b0 : decide (0 ≤ t213) = false := decide_eq_false c16
           clear c16
           have H' := Aside0.mk H
           clear H
           have hczzc1 : wc.cell? ⟨gb210, 0, none⟩ = some (.int .i64 a1_0) := (blk_cell BK210.out 0).trans rfl
           have hczzc2 : wc.cell? ⟨gb210, 1, none⟩ = some (.int .i64 a1_1) := (blk_cell BK210.out 1).trans rfl
           have hfzzc1 := blk_frozen BK210.out 0
           have hfzzc2 := blk_frozen BK210.out 1
           go_wp2_with (first | ((with_reducible refine gate_callee (f := 71) rfl ?_); refine goesL_ (some 30) rfl rfl Try.func71 (by kernel_rfl) rfl #[.slice A0 l0.length c0, .agg #[.int .i64 a1_0, .int .i64 a1_1]] rfl (by (try simp only [List.map_toArray, List.map_cons, List.map_nil]); first | done | rfl | (simp only [List.length_drop, List.length_take]; rfl)) ?_; (with_reducible refine (polygon_locate.calls kj7 _ _ l0 a1_0 a1_1 t213 _ ?side1 ?side2 A15.out).mono ?_); (case side1 => repeat (first | exact (Kd.C_below HR0.out HB.out) | (with_reducible refine Kd.C_alloc ?_ _) | (with_reducible refine Kd.C_drewN ?_ _) | (with_reducible refine Kd.C_drew ?_))); (case side2 => exact HC0.out); rintro e wxb0f01 ⟨rfl, hb⟩; refine ⟨_, rfl, ?_⟩; have n0_ := Aside0.mk (blk_below (g := gb210) (o := .cells #[.int .i64 a1_0, .int .i64 a1_1] 37 (0, 0)) (by (with_reducible repeat (first | refine blk_drewN ?_ _ | refine blk_drew ?_ | refine blk_alloc ?_ _)); exact BK210.out) hb); have n1_ := Aside0.mk (below_step (by repeat (first | (with_reducible first | exact HB.out | apply below_alloc | apply pw_below_drewN | apply below_drew1 | refine below_set ?_ GE210.out) | exact HB.out)) hb); clear BK210; clear HB; have BK210 := n0_; have HB := n1_; clear n0_ n1_; (try clear hb); (try clear hb2); (try clear hk); (try clear hi)))
           go_loopg [34] kj7 (fun kq v34 w' => ∃ (x34_2 : Int), v34 = .int .i64 x34_2 ∧ Aside0 (polygon_Apart.l0 kq l0 a2 l0 (l0.length : Int) x34_2 a1_0 a1_1 = some (r1, r2)) ∧ Aside0 (kq ≤ kj7) ∧ Aside0 (w'.heap[gb210]? = some (.cells #[.int .i64 a1_0, .int .i64 a1_1] 37 (0, 0))) ∧ Aside0 (Below w.heap.size w w'))
           case atStart => exact ⟨(0), (by first | rfl | (simp; done) | (simp [*]; done)), H', ⟨Nat.le_refl _⟩, ⟨by (with_reducible repeat (first | refine blk_drewN ?_ _ | refine blk_drew ?_ | refine blk_alloc ?_ _)); exact BK210.out⟩, ⟨by repeat (first | (with_reducible first | exact HB.out | apply below_alloc | apply pw_below_drewN | apply below_drew1 | refine below_set ?_ GE210.out) | exact HB.out)⟩⟩
           case round =>
            clear H'
            (try clear c1); (try clear p2); (try clear c5); (try clear c5b0); (try clear c5b1); (try clear c6); (try clear c7); (try clear c7b0); (try clear c7b1); (try clear c13); (try clear c13b0); (try clear c14); (try clear c16); (try clear c16b0); (try clear hczx67e11); (try clear hczx67e12); (try clear hczzc3); (try clear hczzc4); (try clear hczzc1); (try clear hczzc2); (try clear hfzx67e11); (try clear hfzx67e12); (try clear hfzzc3); (try clear hfzzc4); (try clear hfzzc1); (try clear hfzzc2); (try clear p2)
            obtain ⟨x34_2, rfl, HA, HK2, BK210, HB⟩ := hrel
            cases gk with
            | zero => exact absurd HA.out (by simp [polygon_Apart.l0])
            | succ k2 =>
             have H := HA.out
             clear HA
             simp only [polygon_Apart.l0] at H
             by_cases c21 : x34_2 < (l0.length : Int)
             · rw [if_pos c21] at H
               have c21b0 : decide (x34_2 < (l0.length : Int)) = true := decide_eq_true c21
               clear c21
               by_cases c22 : 0 ≤ x34_2
               · rw [if_pos c22] at H
                 have c22b0 : decide (0 ≤ x34_2) = true := decide_eq_true c22
                 clear c22
                 by_cases c23 : x34_2 < (l0.length : Int)
                 · rw [if_pos c23] at H
                   have c23b0 : decide (x34_2 < (l0.length : Int)) = true := decide_eq_true c23
                   clear c23
                   by_cases c24 : (l0.length : Int) = 0
                   · rw [if_pos c24] at H
                     exact absurd H (by simp)
                   · rw [if_neg c24] at H
                     have c24b0 : ((l0.length : Int) == 0) = false := beq_eq_false_iff_ne.mpr c24
                     have c24b1 : ((l0.length : Int) != 0) = true := bne_iff_ne.mpr c24
                     have c24b2 : ¬ (l0 = []) := fun h_ => c24 (by rw [h_]; rfl)
                     obtain ⟨ji25, hji25⟩ : ∃ j_ : Int, (Int.tmod (wrap64 ((wrap64 (x34_2 + (l0.length : Int))) - 1)) (l0.length : Int)) = j_ := ⟨_, rfl⟩
                     replace H : (if 0 ≤ (ji25) then (if (ji25) < (l0.length : Int) then ((polygon_near.f ((rd_T37 l0 (ji25)).f0) ((rd_T37 l0 (ji25)).f1) ((rd_T37 l0 x34_2).f0) ((rd_T37 l0 x34_2).f1) a1_0 a1_1 a2).bind fun t217 => (if t217 = true then (some (false, 0)) else (polygon_Apart.l0 k2 l0 a2 l0 (l0.length : Int) (wrap64 (x34_2 + 1)) a1_0 a1_1))) else (none)) else (none)) = some (r1, r2) := by first | (rw [hji25] at H; exact H) | (simp only [hji25] at H ⊢; exact H)
                     by_cases c26 : 0 ≤ (ji25)
                     · rw [if_pos c26] at H
                       have c26b0 : decide (0 ≤ (ji25)) = true := decide_eq_true c26
                       clear c26
                       by_cases c27 : (ji25) < (l0.length : Int)
                       · rw [if_pos c27] at H
                         have c27b0 : decide ((ji25) < (l0.length : Int)) = true := decide_eq_true c27
                         clear c27
                         replace H := Option.bind_eq_some_iff.mp H
                         obtain ⟨t217, A280, H⟩ := H
                         replace H : (if t217 = true then (some (false, 0)) else (polygon_Apart.l0 k2 l0 a2 l0 (l0.length : Int) (wrap64 (x34_2 + 1)) a1_0 a1_1)) = some (r1, r2) := H
                         have A28 := Aside0.mk A280
                         clear A280
                         by_cases c29 : t217 = true
                         · subst c29
                           have H1 : (some (false, 0)) = some (r1, r2) := by rw [if_pos rfl] at H; exact H
                           clear H
                           have H := H1
                           clear H1
                           simp only [Option.some.injEq, Prod.mk.injEq] at H
                           obtain ⟨rfl, rfl⟩ := H
                           have p214 : 0 ≤ (x34_2 : Int) := of_decide_eq_true (by first | (with_reducible assumption) | assumption)
                           have q214 : x34_2 < (l0.length : Int) := of_decide_eq_true (by first | (with_reducible assumption) | assumption)
                           obtain ⟨ad214, e214, hx214_0, hx214_1⟩ := at_T37 HR0.out x34_2 p214 q214
                           cases e214
                           replace hx214_0 := (HB.out.cell (World.block_lt_of_cell? w _ hx214_0)).trans hx214_0
                           replace hx214_1 := (HB.out.cell (World.block_lt_of_cell? w _ hx214_1)).trans hx214_1
                           replace p214 := eq_true p214
                           replace q214 := eq_true q214
                           try go_wp2_with (first | ((with_reducible refine gate_dst (N := 11) rfl ?_); refine box_event ?hg (N := 11) ?hd (cs := #[.int .i64 0, .int .i64 0]) (t := 37) ?hr ?_; (case hd => rfl); (case hg => rfl); (case hr => first | (go_simp; done) | (go_simp; rfl)); intro gb215 hg wx2dd21 hbox hb; have n0_ := Aside0.mk (blk_below (g := gb210) (o := .cells #[.int .i64 a1_0, .int .i64 a1_1] 37 (0, 0)) (by (with_reducible repeat (first | refine blk_drewN ?_ _ | refine blk_drew ?_ | refine blk_alloc ?_ _)); exact BK210.out) hb); have n1_ := Aside0.mk (below_step (by repeat (first | (with_reducible first | exact HB.out | apply below_alloc | apply pw_below_drewN | apply below_drew1 | refine below_set ?_ GE210.out) | exact HB.out)) hb); have n2_ := Aside0.mk (hbox); have n3_ := Aside0.mk ((by rw [hg]; exact (below_size (by repeat (first | (with_reducible first | exact HB.out | apply below_alloc | apply pw_below_drewN | apply below_drew1 | refine below_set ?_ GE210.out) | exact HB.out))) : w.heap.size ≤ gb215)); have n4_ := Aside0.mk ((by rw [hg]; exact (below_size (by repeat (first | (with_reducible first | exact HB.out | apply below_alloc | apply pw_below_drewN | apply below_drew1 | refine below_set ?_ GE210.out) | exact HB.out))) : w.heap.size ≤ gb215)); have n5_ := Aside0.mk ((by rw [hg]; exact Nat.ne_of_lt (blk_lt (g := gb210) (o := .cells #[.int .i64 a1_0, .int .i64 a1_1] 37 (0, 0)) (by (with_reducible repeat (first | refine blk_drewN ?_ _ | refine blk_drew ?_ | refine blk_alloc ?_ _)); exact BK210.out)) : gb210 ≠ gb215)); have n6_ := Aside0.mk ((by rw [hg]; exact Nat.ne_of_gt (blk_lt (g := gb210) (o := .cells #[.int .i64 a1_0, .int .i64 a1_1] 37 (0, 0)) (by (with_reducible repeat (first | refine blk_drewN ?_ _ | refine blk_drew ?_ | refine blk_alloc ?_ _)); exact BK210.out)) : gb215 ≠ gb210)); clear BK210; clear HB; have BK210 := n0_; have HB := n1_; have BK215 := n2_; have GW215 := n3_; have GE215 := n4_; have NB210_215 := n5_; have NB215_210 := n6_; clear n0_ n1_ n2_ n3_ n4_ n5_ n6_; clear hb hbox hg; have hnbx2dd21 := NB215_210.out; have hncx2dd21 := NB210_215.out; have hczx2dd21 : wx2dd21.cell? ⟨gb215, 0, none⟩ = some (.int .i64 0) := (blk_cell BK215.out 0).trans rfl; have hczx2dd22 : wx2dd21.cell? ⟨gb215, 1, none⟩ = some (.int .i64 0) := (blk_cell BK215.out 1).trans rfl; have hfzx2dd21 := blk_frozen BK215.out 0; have hfzx2dd22 := blk_frozen BK215.out 1))
                           have n0_ : Aside0 (((wx2dd21.setCell ⟨gb215, 0, none⟩ (.int .i64 ((rd_T37 l0 x34_2).f0))).setCell ⟨gb215, 1, none⟩ (.int .i64 ((rd_T37 l0 x34_2).f1))).heap[gb210]? = some (.cells #[.int .i64 a1_0, .int .i64 a1_1] 37 (0, 0))) := ⟨by (with_reducible repeat (first | refine blk_drewN ?_ _ | refine blk_drew ?_ | refine blk_alloc ?_ _)); refine blk_far ?_ NB210_215.out _; (with_reducible repeat (first | refine blk_drewN ?_ _ | refine blk_drew ?_ | refine blk_alloc ?_ _)); refine blk_far ?_ NB210_215.out _; (with_reducible repeat (first | refine blk_drewN ?_ _ | refine blk_drew ?_ | refine blk_alloc ?_ _)); exact BK210.out⟩
                           have n1_ : Aside0 (((wx2dd21.setCell ⟨gb215, 0, none⟩ (.int .i64 ((rd_T37 l0 x34_2).f0))).setCell ⟨gb215, 1, none⟩ (.int .i64 ((rd_T37 l0 x34_2).f1))).heap[gb215]? = some (.cells #[.int .i64 ((rd_T37 l0 x34_2).f0), .int .i64 ((rd_T37 l0 x34_2).f1)] 37 (0, 0))) := ⟨by (with_reducible repeat (first | refine blk_drewN ?_ _ | refine blk_drew ?_ | refine blk_alloc ?_ _)); refine blk_put (cs := #[.int .i64 ((rd_T37 l0 x34_2).f0), .int .i64 0]) ?_ 1 _ rfl; (with_reducible repeat (first | refine blk_drewN ?_ _ | refine blk_drew ?_ | refine blk_alloc ?_ _)); refine blk_put (cs := #[.int .i64 0, .int .i64 0]) ?_ 0 _ rfl; (with_reducible repeat (first | refine blk_drewN ?_ _ | refine blk_drew ?_ | refine blk_alloc ?_ _)); exact BK215.out⟩
                           have n2_ : Aside0 (Below w.heap.size w ((wx2dd21.setCell ⟨gb215, 0, none⟩ (.int .i64 ((rd_T37 l0 x34_2).f0))).setCell ⟨gb215, 1, none⟩ (.int .i64 ((rd_T37 l0 x34_2).f1)))) := ⟨by repeat (first | (with_reducible first | exact HB.out | apply below_alloc | apply pw_below_drewN | apply below_drew1 | refine below_set ?_ GE210.out | refine below_set ?_ GE215.out) | exact HB.out)⟩
                           (try clear BK210)
                           (try clear BK215)
                           (try clear HB)
                           generalize ((wx2dd21.setCell ⟨gb215, 0, none⟩ (.int .i64 ((rd_T37 l0 x34_2).f0))).setCell ⟨gb215, 1, none⟩ (.int .i64 ((rd_T37 l0 x34_2).f1))) = wze1 at n0_ n1_ n2_ ⊢
                           have BK210 := n0_
                           have BK215 := n1_
                           have HB := n2_
                           clear n0_ n1_ n2_
                           have n0_ := Aside0.mk (blk_drew BK210.out)
                           have n1_ := Aside0.mk (blk_drew BK215.out)
                           have n2_ := Aside0.mk (below_drew1 HB.out)
                           clear BK210
                           clear BK215
                           clear HB
                           have BK210 := n0_
                           have BK215 := n1_
                           have HB := n2_
                           clear n0_ n1_ n2_
                           have p216 : 0 ≤ ((ji25) : Int) := of_decide_eq_true (by first | (with_reducible assumption) | assumption)
                           have q216 : (ji25) < (l0.length : Int) := of_decide_eq_true (by first | (with_reducible assumption) | assumption)
                           obtain ⟨ad216, e216, hx216_0, hx216_1⟩ := at_T37 HR0.out (ji25) p216 q216
                           have hw216_1 := hx216_1
                           have hw216_0 := hx216_0
                           obtain rfl : ad214 = ad216 := (by injection e216)
                           replace hx216_0 := (HB.out.cell (World.block_lt_of_cell? w _ hx216_0)).trans hx216_0
                           replace hx216_1 := (HB.out.cell (World.block_lt_of_cell? w _ hx216_1)).trans hx216_1
                           replace p216 := eq_true p216
                           replace q216 := eq_true q216
                           refine start_ (n := 15) (S := fun w' => w'.cell? ⟨gb215, 0, none⟩ = some (.int .i64 ((rd_T37 l0 x34_2).f0)) ∧ w'.cell? ⟨gb215, 1, none⟩ = some (.int .i64 ((rd_T37 l0 x34_2).f1)) ∧ w'.cell? ⟨gb210, 0, none⟩ = some (.int .i64 a1_0) ∧ w'.cell? ⟨gb210, 1, none⟩ = some (.int .i64 a1_1) ∧ w'.cell? (ad214.add (((ji25)).toNat * 2)) = some (.int .i64 ((rd_T37 l0 (ji25)).f0)) ∧ w'.cell? ⟨(ad214.add (((ji25)).toNat * 2)).block, (ad214.add (((ji25)).toNat * 2)).off + 1, none⟩ = some (.int .i64 ((rd_T37 l0 (ji25)).f1))) (ds := []) #[false, false, false, false, false, false, false, false, false, false, false, false, false, false, false] (by kernel_rfl) rfl rfl ⟨(blk_cell BK215.out 0).trans rfl, (blk_cell BK215.out 1).trans rfl, (blk_cell BK210.out 0).trans rfl, (blk_cell BK210.out 1).trans rfl, ((HB.out.cell (World.block_lt_of_cell? w _ hw216_0)).trans hw216_0), ((HB.out.cell (World.block_lt_of_cell? w _ hw216_1)).trans hw216_1)⟩ (fun hHeld => ?_); refine with_tabW polygon_Apart.tab14 polygon_Apart.bits14 (fun HT_ HW_ => ?_)
                           generalize wze1.drew = wze2 at BK210 BK215 HB hx216_0 hx216_1 hHeld ⊢
                           refine pure_ (i := 0) (N := some 39) (v := ?_) (a' := ?_) #[true, false, false, false, false, false, false, false, false, false, false, false, false, false, false] rfl rfl (any_of HT_.out (by kernel_rfl)) (fun _ _ _ h => h) (Or.inl ⟨by rfl, ?_⟩) ?_ ?_
                           rotate_left
                           · intro w'
                             go_simp
                             with_reducible rfl
                           rotate_left
                           · simp only [Act.put, List.setIfInBounds_toArray, List.set_cons_zero, List.set_cons_succ, i64_w, i32_w]
                             rfl
                           refine pure_ (i := 1) (N := some 40) (v := ?_) (a' := ?_) #[true, true, false, false, false, false, false, false, false, false, false, false, false, false, false] rfl rfl (any_of HT_.out (by kernel_rfl)) (fun _ _ _ h => h) (Or.inl ⟨by rfl, ?_⟩) ?_ ?_
                           rotate_left
                           · intro w'
                             go_simp
                             with_reducible rfl
                           rotate_left
                           · simp only [Act.put, List.setIfInBounds_toArray, List.set_cons_zero, List.set_cons_succ, i64_w, i32_w]
                             rfl
                           refine pure_ (i := 2) (N := some 41) (v := ?_) (a' := ?_) #[true, true, true, false, false, false, false, false, false, false, false, false, false, false, false] rfl rfl (any_of HT_.out (by kernel_rfl)) (fun _ _ _ h => h) (Or.inl ⟨by rfl, ?_⟩) ?_ ?_
                           rotate_left
                           · intro w'
                             go_simp
                             with_reducible rfl
                           rotate_left
                           · simp only [Act.put, List.setIfInBounds_toArray, List.set_cons_zero, List.set_cons_succ, i64_w, i32_w]
                             rfl
                           refine pure_ (i := 3) (N := some 42) (v := ?_) (a' := ?_) #[true, true, true, true, false, false, false, false, false, false, false, false, false, false, false] rfl rfl (any_of HT_.out (by kernel_rfl)) (fun _ _ _ h => h) (Or.inl ⟨by rfl, ?_⟩) ?_ ?_
                           rotate_left
                           · intro w'
                             go_simp
                             with_reducible rfl
                           rotate_left
                           · simp only [Act.put, List.setIfInBounds_toArray, List.set_cons_zero, List.set_cons_succ, i64_w, i32_w]
                             rfl
                           refine pure_ (i := 4) (N := some 43) (v := ?_) (a' := ?_) #[true, true, true, true, true, false, false, false, false, false, false, false, false, false, false] rfl rfl (any_of HT_.out (by kernel_rfl)) (fun _ _ _ h => h) (Or.inl ⟨by rfl, ?_⟩) ?_ ?_
                           rotate_left
                           · intro w'
                             go_simp
                             with_reducible rfl
                           rotate_left
                           · simp only [Act.put, List.setIfInBounds_toArray, List.set_cons_zero, List.set_cons_succ, i64_w, i32_w]
                             rfl
                           refine pure_ (i := 5) (N := some 44) (v := ?_) (a' := ?_) #[true, true, true, true, true, true, false, false, false, false, false, false, false, false, false] rfl rfl (any_of HT_.out (by kernel_rfl)) (fun _ _ _ h => h) (Or.inl ⟨by rfl, ?_⟩) ?_ ?_
                           rotate_left
                           · intro w'
                             go_simp
                             with_reducible rfl
                           rotate_left
                           · simp only [Act.put, List.setIfInBounds_toArray, List.set_cons_zero, List.set_cons_succ, i64_w, i32_w]
                             rfl
                           refine pure_ (i := 6) (N := some 45) (v := ?_) (a' := ?_) #[true, true, true, true, true, true, true, false, false, false, false, false, false, false, false] rfl rfl (any_of HT_.out (by kernel_rfl)) (fun _ _ _ h => h) (Or.inl ⟨by rfl, ?_⟩) ?_ ?_
                           rotate_left
                           · intro w'
                             go_simp
                             with_reducible rfl
                           rotate_left
                           · simp only [Act.put, List.setIfInBounds_toArray, List.set_cons_zero, List.set_cons_succ, i64_w, i32_w]
                             rfl
                           refine pure_ (i := 7) (N := some 46) (v := ?_) (a' := ?_) #[true, true, true, true, true, true, true, true, false, false, false, false, false, false, false] rfl rfl (any_of HT_.out (by kernel_rfl)) (fun _ _ _ h => h) (Or.inl ⟨by rfl, ?_⟩) ?_ ?_
                           rotate_left
                           · intro w'
                             go_simp
                             with_reducible rfl
                           rotate_left
                           · simp only [Act.put, List.setIfInBounds_toArray, List.set_cons_zero, List.set_cons_succ, i64_w, i32_w]
                             rfl
                           refine pure_ (i := 8) (N := some 47) (v := ?_) (a' := ?_) #[true, true, true, true, true, true, true, true, true, false, false, false, false, false, false] rfl rfl (any_of HT_.out (by kernel_rfl)) (fun _ _ _ h => h) (Or.inl ⟨by rfl, ?_⟩) ?_ ?_
                           rotate_left
                           · intro w'
                             go_simp
                             with_reducible rfl
                           rotate_left
                           · simp only [Act.put, List.setIfInBounds_toArray, List.set_cons_zero, List.set_cons_succ, i64_w, i32_w]
                             rfl
                           refine pure_ (i := 9) (N := some 48) (v := ?_) (a' := ?_) #[true, true, true, true, true, true, true, true, true, true, false, false, false, false, false] rfl rfl (any_of HT_.out (by kernel_rfl)) (fun _ _ _ h => h) (Or.inl ⟨by rfl, ?_⟩) ?_ ?_
                           rotate_left
                           · intro w'
                             go_simp
                             with_reducible rfl
                           rotate_left
                           · simp only [Act.put, List.setIfInBounds_toArray, List.set_cons_zero, List.set_cons_succ, i64_w, i32_w]
                             rfl
                           refine pure_ (i := 13) (N := some 52) (v := ?_) (a' := ?_) #[true, true, true, true, true, true, true, true, true, true, false, false, false, true, false] rfl rfl (any_of HT_.out (by kernel_rfl)) (fun _ _ _ h => h) (Or.inl ⟨by rfl, ?_⟩) ?_ ?_
                           rotate_left
                           · intro w'
                             go_simp
                             with_reducible rfl
                           rotate_left
                           · simp only [Act.put, List.setIfInBounds_toArray, List.set_cons_zero, List.set_cons_succ, i64_w, i32_w]
                             rfl
                           refine take_ (i := 10) (N := some 49) (v := ?_) (a' := ?_) #[true, true, true, true, true, true, true, true, true, true, true, false, false, true, false] rfl rfl (take_ofW HT_.out HW_.out (by kernel_rfl)) (fun _ _ _ h => h) (Or.inl ⟨by rfl, ?_⟩) hHeld ?_ ?_
                           rotate_left
                           · rintro w' ⟨s0, s1, s2, s3, s4, s5⟩
                             go_simp
                             with_reducible rfl
                           rotate_left
                           · simp only [Act.put, List.setIfInBounds_toArray, List.set_cons_zero, List.set_cons_succ, i64_w, i32_w]
                             rfl
                           refine take_ (i := 11) (N := some 50) (v := ?_) (a' := ?_) #[true, true, true, true, true, true, true, true, true, true, true, true, false, true, false] rfl rfl (take_ofW HT_.out HW_.out (by kernel_rfl)) (fun _ _ _ h => h) (Or.inl ⟨by rfl, ?_⟩) hHeld ?_ ?_
                           rotate_left
                           · rintro w' ⟨s0, s1, s2, s3, s4, s5⟩
                             go_simp
                             with_reducible rfl
                           rotate_left
                           · simp only [Act.put, List.setIfInBounds_toArray, List.set_cons_zero, List.set_cons_succ, i64_w, i32_w]
                             rfl
                           refine take_ (i := 12) (N := some 51) (v := ?_) (a' := ?_) #[true, true, true, true, true, true, true, true, true, true, true, true, true, true, false] rfl rfl (take_ofW HT_.out HW_.out (by kernel_rfl)) (fun _ _ _ h => h) (Or.inl ⟨by rfl, ?_⟩) hHeld ?_ ?_
                           rotate_left
                           · rintro w' ⟨s0, s1, s2, s3, s4, s5⟩
                             go_simp
                             with_reducible rfl
                           rotate_left
                           · simp only [Act.put, List.setIfInBounds_toArray, List.set_cons_zero, List.set_cons_succ, i64_w, i32_w]
                             rfl
                           refine one_ (i := 14) (N := some 53) #[true, true, true, true, true, true, true, true, true, true, true, true, true, true, true] rfl rfl (one_of HT_.out (by kernel_rfl)) (by decide) (fun K hK => ?_)
                           refine goes_ Try.func72 (by kernel_rfl) rfl #[.agg #[.int .i64 ((rd_T37 l0 (ji25)).f0), .int .i64 ((rd_T37 l0 (ji25)).f1)], .agg #[.int .i64 ((rd_T37 l0 x34_2).f0), .int .i64 ((rd_T37 l0 x34_2).f1)], .agg #[.int .i64 a1_0, .int .i64 a1_1], .int .i64 a2] (by rfl) rfl rfl (by (try simp only [List.map_toArray, List.map_cons, List.map_nil]); first | done | (simp only [hji25]; rfl) | rfl | (simp only [List.length_drop, List.length_take]; rfl)) ?_
                           with_reducible refine (polygon_near.calls ((rd_T37 l0 (ji25)).f0) ((rd_T37 l0 (ji25)).f1) ((rd_T37 l0 x34_2).f0) ((rd_T37 l0 x34_2).f1) a1_0 a1_1 a2 true _ A28.out).mono ?_
                           rintro e wze3 ⟨rfl, hb⟩
                           refine ⟨_, rfl, ?_⟩
                           have n0_ := Aside0.mk (blk_below (g := gb210) (o := .cells #[.int .i64 a1_0, .int .i64 a1_1] 37 (0, 0)) (by (with_reducible repeat (first | refine blk_drewN ?_ _ | refine blk_drew ?_ | refine blk_alloc ?_ _)); exact BK210.out) hb)
                           have n1_ := Aside0.mk (blk_below (g := gb215) (o := .cells #[.int .i64 ((rd_T37 l0 x34_2).f0), .int .i64 ((rd_T37 l0 x34_2).f1)] 37 (0, 0)) (by (with_reducible repeat (first | refine blk_drewN ?_ _ | refine blk_drew ?_ | refine blk_alloc ?_ _)); exact BK215.out) hb)
                           have n2_ := Aside0.mk (below_step (by repeat (first | (with_reducible first | exact HB.out | apply below_alloc | apply pw_below_drewN | apply below_drew1 | refine below_set ?_ GE210.out | refine below_set ?_ GE215.out) | exact HB.out)) hb)
                           clear BK210
                           clear BK215
                           clear HB
                           have BK210 := n0_
                           have BK215 := n1_
                           have HB := n2_
                           clear n0_ n1_ n2_
                           (try clear hb)
                           (try clear hb2)
                           (try clear hk)
                           (try clear hi)
                           refine hK.out _ _ ⟨(blk_cell BK215.out 0).trans rfl, (blk_cell BK215.out 1).trans rfl, (blk_cell BK210.out 0).trans rfl, (blk_cell BK210.out 1).trans rfl, ((HB.out.cell (World.block_lt_of_cell? w _ hw216_0)).trans hw216_0), ((HB.out.cell (World.block_lt_of_cell? w _ hw216_1)).trans hw216_1)⟩ (fun hHeld => ?_)
                           clear hK K
                           refine norm_ (a' := ?_) ?_ ?_
                           rotate_left
                           · show Act.put _ (some 53) _ = _
                             simp only [Act.put, List.setIfInBounds_toArray, List.set_cons_zero, List.set_cons_succ, i64_w, i32_w]
                             rfl
                           refine done_ (done_of HT_.out (by kernel_rfl)) ?_
                           try go_wp2
                           go_ret2
                           exact ⟨by first | rfl | (simp [errW_none, errW_some] <;> rfl) | (simp only [← hji25]; first | rfl | (simp [errW_none, errW_some] <;> rfl)) | (simp [*, errW_none, errW_some] <;> rfl), by repeat (first | (with_reducible first | exact HB.out | apply below_alloc | apply pw_below_drewN | apply below_drew1 | refine below_set ?_ GE210.out | refine below_set ?_ GE215.out) | exact HB.out)⟩
                         · replace c29 := Bool.eq_false_iff.mpr c29
                           subst c29
                           have H1 : (polygon_Apart.l0 k2 l0 a2 l0 (l0.length : Int) (wrap64 (x34_2 + 1)) a1_0 a1_1) = some (r1, r2) := by rw [if_neg (show ¬ (false = true) by decide)] at H; exact H
                           clear H
                           have H := H1
                           clear H1
                           have H' := Aside0.mk H
                           clear H
                           have p214 : 0 ≤ (x34_2 : Int) := of_decide_eq_true (by first | (with_reducible assumption) | assumption)
                           have q214 : x34_2 < (l0.length : Int) := of_decide_eq_true (by first | (with_reducible assumption) | assumption)
                           obtain ⟨ad214, e214, hx214_0, hx214_1⟩ := at_T37 HR0.out x34_2 p214 q214
                           cases e214
                           replace hx214_0 := (HB.out.cell (World.block_lt_of_cell? w _ hx214_0)).trans hx214_0
                           replace hx214_1 := (HB.out.cell (World.block_lt_of_cell? w _ hx214_1)).trans hx214_1
                           replace p214 := eq_true p214
                           replace q214 := eq_true q214
                           try go_wp2_with (first | ((with_reducible refine gate_dst (N := 11) rfl ?_); refine box_event ?hg (N := 11) ?hd (cs := #[.int .i64 0, .int .i64 0]) (t := 37) ?hr ?_; (case hd => rfl); (case hg => rfl); (case hr => first | (go_simp; done) | (go_simp; rfl)); intro gb215 hg wx2dd21 hbox hb; have n0_ := Aside0.mk (blk_below (g := gb210) (o := .cells #[.int .i64 a1_0, .int .i64 a1_1] 37 (0, 0)) (by (with_reducible repeat (first | refine blk_drewN ?_ _ | refine blk_drew ?_ | refine blk_alloc ?_ _)); exact BK210.out) hb); have n1_ := Aside0.mk (below_step (by repeat (first | (with_reducible first | exact HB.out | apply below_alloc | apply pw_below_drewN | apply below_drew1 | refine below_set ?_ GE210.out) | exact HB.out)) hb); have n2_ := Aside0.mk (hbox); have n3_ := Aside0.mk ((by rw [hg]; exact (below_size (by repeat (first | (with_reducible first | exact HB.out | apply below_alloc | apply pw_below_drewN | apply below_drew1 | refine below_set ?_ GE210.out) | exact HB.out))) : w.heap.size ≤ gb215)); have n4_ := Aside0.mk ((by rw [hg]; exact (below_size (by repeat (first | (with_reducible first | exact HB.out | apply below_alloc | apply pw_below_drewN | apply below_drew1 | refine below_set ?_ GE210.out) | exact HB.out))) : w.heap.size ≤ gb215)); have n5_ := Aside0.mk ((by rw [hg]; exact Nat.ne_of_lt (blk_lt (g := gb210) (o := .cells #[.int .i64 a1_0, .int .i64 a1_1] 37 (0, 0)) (by (with_reducible repeat (first | refine blk_drewN ?_ _ | refine blk_drew ?_ | refine blk_alloc ?_ _)); exact BK210.out)) : gb210 ≠ gb215)); have n6_ := Aside0.mk ((by rw [hg]; exact Nat.ne_of_gt (blk_lt (g := gb210) (o := .cells #[.int .i64 a1_0, .int .i64 a1_1] 37 (0, 0)) (by (with_reducible repeat (first | refine blk_drewN ?_ _ | refine blk_drew ?_ | refine blk_alloc ?_ _)); exact BK210.out)) : gb215 ≠ gb210)); clear BK210; clear HB; have BK210 := n0_; have HB := n1_; have BK215 := n2_; have GW215 := n3_; have GE215 := n4_; have NB210_215 := n5_; have NB215_210 := n6_; clear n0_ n1_ n2_ n3_ n4_ n5_ n6_; clear hb hbox hg; have hnbx2dd21 := NB215_210.out; have hncx2dd21 := NB210_215.out; have hczx2dd21 : wx2dd21.cell? ⟨gb215, 0, none⟩ = some (.int .i64 0) := (blk_cell BK215.out 0).trans rfl; have hczx2dd22 : wx2dd21.cell? ⟨gb215, 1, none⟩ = some (.int .i64 0) := (blk_cell BK215.out 1).trans rfl; have hfzx2dd21 := blk_frozen BK215.out 0; have hfzx2dd22 := blk_frozen BK215.out 1))
                           have n0_ : Aside0 (((wx2dd21.setCell ⟨gb215, 0, none⟩ (.int .i64 ((rd_T37 l0 x34_2).f0))).setCell ⟨gb215, 1, none⟩ (.int .i64 ((rd_T37 l0 x34_2).f1))).heap[gb210]? = some (.cells #[.int .i64 a1_0, .int .i64 a1_1] 37 (0, 0))) := ⟨by (with_reducible repeat (first | refine blk_drewN ?_ _ | refine blk_drew ?_ | refine blk_alloc ?_ _)); refine blk_far ?_ NB210_215.out _; (with_reducible repeat (first | refine blk_drewN ?_ _ | refine blk_drew ?_ | refine blk_alloc ?_ _)); refine blk_far ?_ NB210_215.out _; (with_reducible repeat (first | refine blk_drewN ?_ _ | refine blk_drew ?_ | refine blk_alloc ?_ _)); exact BK210.out⟩
                           have n1_ : Aside0 (((wx2dd21.setCell ⟨gb215, 0, none⟩ (.int .i64 ((rd_T37 l0 x34_2).f0))).setCell ⟨gb215, 1, none⟩ (.int .i64 ((rd_T37 l0 x34_2).f1))).heap[gb215]? = some (.cells #[.int .i64 ((rd_T37 l0 x34_2).f0), .int .i64 ((rd_T37 l0 x34_2).f1)] 37 (0, 0))) := ⟨by (with_reducible repeat (first | refine blk_drewN ?_ _ | refine blk_drew ?_ | refine blk_alloc ?_ _)); refine blk_put (cs := #[.int .i64 ((rd_T37 l0 x34_2).f0), .int .i64 0]) ?_ 1 _ rfl; (with_reducible repeat (first | refine blk_drewN ?_ _ | refine blk_drew ?_ | refine blk_alloc ?_ _)); refine blk_put (cs := #[.int .i64 0, .int .i64 0]) ?_ 0 _ rfl; (with_reducible repeat (first | refine blk_drewN ?_ _ | refine blk_drew ?_ | refine blk_alloc ?_ _)); exact BK215.out⟩
                           have n2_ : Aside0 (Below w.heap.size w ((wx2dd21.setCell ⟨gb215, 0, none⟩ (.int .i64 ((rd_T37 l0 x34_2).f0))).setCell ⟨gb215, 1, none⟩ (.int .i64 ((rd_T37 l0 x34_2).f1)))) := ⟨by repeat (first | (with_reducible first | exact HB.out | apply below_alloc | apply pw_below_drewN | apply below_drew1 | refine below_set ?_ GE210.out | refine below_set ?_ GE215.out) | exact HB.out)⟩
                           (try clear BK210)
                           (try clear BK215)
                           (try clear HB)
                           generalize ((wx2dd21.setCell ⟨gb215, 0, none⟩ (.int .i64 ((rd_T37 l0 x34_2).f0))).setCell ⟨gb215, 1, none⟩ (.int .i64 ((rd_T37 l0 x34_2).f1))) = wze1 at n0_ n1_ n2_ ⊢
                           have BK210 := n0_
                           have BK215 := n1_
                           have HB := n2_
                           clear n0_ n1_ n2_
                           have n0_ := Aside0.mk (blk_drew BK210.out)
                           have n1_ := Aside0.mk (blk_drew BK215.out)
                           have n2_ := Aside0.mk (below_drew1 HB.out)
                           clear BK210
                           clear BK215
                           clear HB
                           have BK210 := n0_
                           have BK215 := n1_
                           have HB := n2_
                           clear n0_ n1_ n2_
                           have p216 : 0 ≤ ((ji25) : Int) := of_decide_eq_true (by first | (with_reducible assumption) | assumption)
                           have q216 : (ji25) < (l0.length : Int) := of_decide_eq_true (by first | (with_reducible assumption) | assumption)
                           obtain ⟨ad216, e216, hx216_0, hx216_1⟩ := at_T37 HR0.out (ji25) p216 q216
                           have hw216_1 := hx216_1
                           have hw216_0 := hx216_0
                           obtain rfl : ad214 = ad216 := (by injection e216)
                           replace hx216_0 := (HB.out.cell (World.block_lt_of_cell? w _ hx216_0)).trans hx216_0
                           replace hx216_1 := (HB.out.cell (World.block_lt_of_cell? w _ hx216_1)).trans hx216_1
                           replace p216 := eq_true p216
                           replace q216 := eq_true q216
                           refine start_ (n := 15) (S := fun w' => w'.cell? ⟨gb215, 0, none⟩ = some (.int .i64 ((rd_T37 l0 x34_2).f0)) ∧ w'.cell? ⟨gb215, 1, none⟩ = some (.int .i64 ((rd_T37 l0 x34_2).f1)) ∧ w'.cell? ⟨gb210, 0, none⟩ = some (.int .i64 a1_0) ∧ w'.cell? ⟨gb210, 1, none⟩ = some (.int .i64 a1_1) ∧ w'.cell? (ad214.add (((ji25)).toNat * 2)) = some (.int .i64 ((rd_T37 l0 (ji25)).f0)) ∧ w'.cell? ⟨(ad214.add (((ji25)).toNat * 2)).block, (ad214.add (((ji25)).toNat * 2)).off + 1, none⟩ = some (.int .i64 ((rd_T37 l0 (ji25)).f1))) (ds := []) #[false, false, false, false, false, false, false, false, false, false, false, false, false, false, false] (by kernel_rfl) rfl rfl ⟨(blk_cell BK215.out 0).trans rfl, (blk_cell BK215.out 1).trans rfl, (blk_cell BK210.out 0).trans rfl, (blk_cell BK210.out 1).trans rfl, ((HB.out.cell (World.block_lt_of_cell? w _ hw216_0)).trans hw216_0), ((HB.out.cell (World.block_lt_of_cell? w _ hw216_1)).trans hw216_1)⟩ (fun hHeld => ?_); refine with_tabW polygon_Apart.tab14 polygon_Apart.bits14 (fun HT_ HW_ => ?_)
                           generalize wze1.drew = wze2 at BK210 BK215 HB hx216_0 hx216_1 hHeld ⊢
                           refine pure_ (i := 0) (N := some 39) (v := ?_) (a' := ?_) #[true, false, false, false, false, false, false, false, false, false, false, false, false, false, false] rfl rfl (any_of HT_.out (by kernel_rfl)) (fun _ _ _ h => h) (Or.inl ⟨by rfl, ?_⟩) ?_ ?_
                           rotate_left
                           · intro w'
                             go_simp
                             with_reducible rfl
                           rotate_left
                           · simp only [Act.put, List.setIfInBounds_toArray, List.set_cons_zero, List.set_cons_succ, i64_w, i32_w]
                             rfl
                           refine pure_ (i := 1) (N := some 40) (v := ?_) (a' := ?_) #[true, true, false, false, false, false, false, false, false, false, false, false, false, false, false] rfl rfl (any_of HT_.out (by kernel_rfl)) (fun _ _ _ h => h) (Or.inl ⟨by rfl, ?_⟩) ?_ ?_
                           rotate_left
                           · intro w'
                             go_simp
                             with_reducible rfl
                           rotate_left
                           · simp only [Act.put, List.setIfInBounds_toArray, List.set_cons_zero, List.set_cons_succ, i64_w, i32_w]
                             rfl
                           refine pure_ (i := 2) (N := some 41) (v := ?_) (a' := ?_) #[true, true, true, false, false, false, false, false, false, false, false, false, false, false, false] rfl rfl (any_of HT_.out (by kernel_rfl)) (fun _ _ _ h => h) (Or.inl ⟨by rfl, ?_⟩) ?_ ?_
                           rotate_left
                           · intro w'
                             go_simp
                             with_reducible rfl
                           rotate_left
                           · simp only [Act.put, List.setIfInBounds_toArray, List.set_cons_zero, List.set_cons_succ, i64_w, i32_w]
                             rfl
                           refine pure_ (i := 3) (N := some 42) (v := ?_) (a' := ?_) #[true, true, true, true, false, false, false, false, false, false, false, false, false, false, false] rfl rfl (any_of HT_.out (by kernel_rfl)) (fun _ _ _ h => h) (Or.inl ⟨by rfl, ?_⟩) ?_ ?_
                           rotate_left
                           · intro w'
                             go_simp
                             with_reducible rfl
                           rotate_left
                           · simp only [Act.put, List.setIfInBounds_toArray, List.set_cons_zero, List.set_cons_succ, i64_w, i32_w]
                             rfl
                           refine pure_ (i := 4) (N := some 43) (v := ?_) (a' := ?_) #[true, true, true, true, true, false, false, false, false, false, false, false, false, false, false] rfl rfl (any_of HT_.out (by kernel_rfl)) (fun _ _ _ h => h) (Or.inl ⟨by rfl, ?_⟩) ?_ ?_
                           rotate_left
                           · intro w'
                             go_simp
                             with_reducible rfl
                           rotate_left
                           · simp only [Act.put, List.setIfInBounds_toArray, List.set_cons_zero, List.set_cons_succ, i64_w, i32_w]
                             rfl
                           refine pure_ (i := 5) (N := some 44) (v := ?_) (a' := ?_) #[true, true, true, true, true, true, false, false, false, false, false, false, false, false, false] rfl rfl (any_of HT_.out (by kernel_rfl)) (fun _ _ _ h => h) (Or.inl ⟨by rfl, ?_⟩) ?_ ?_
                           rotate_left
                           · intro w'
                             go_simp
                             with_reducible rfl
                           rotate_left
                           · simp only [Act.put, List.setIfInBounds_toArray, List.set_cons_zero, List.set_cons_succ, i64_w, i32_w]
                             rfl
                           refine pure_ (i := 6) (N := some 45) (v := ?_) (a' := ?_) #[true, true, true, true, true, true, true, false, false, false, false, false, false, false, false] rfl rfl (any_of HT_.out (by kernel_rfl)) (fun _ _ _ h => h) (Or.inl ⟨by rfl, ?_⟩) ?_ ?_
                           rotate_left
                           · intro w'
                             go_simp
                             with_reducible rfl
                           rotate_left
                           · simp only [Act.put, List.setIfInBounds_toArray, List.set_cons_zero, List.set_cons_succ, i64_w, i32_w]
                             rfl
                           refine pure_ (i := 7) (N := some 46) (v := ?_) (a' := ?_) #[true, true, true, true, true, true, true, true, false, false, false, false, false, false, false] rfl rfl (any_of HT_.out (by kernel_rfl)) (fun _ _ _ h => h) (Or.inl ⟨by rfl, ?_⟩) ?_ ?_
                           rotate_left
                           · intro w'
                             go_simp
                             with_reducible rfl
                           rotate_left
                           · simp only [Act.put, List.setIfInBounds_toArray, List.set_cons_zero, List.set_cons_succ, i64_w, i32_w]
                             rfl
                           refine pure_ (i := 8) (N := some 47) (v := ?_) (a' := ?_) #[true, true, true, true, true, true, true, true, true, false, false, false, false, false, false] rfl rfl (any_of HT_.out (by kernel_rfl)) (fun _ _ _ h => h) (Or.inl ⟨by rfl, ?_⟩) ?_ ?_
                           rotate_left
                           · intro w'
                             go_simp
                             with_reducible rfl
                           rotate_left
                           · simp only [Act.put, List.setIfInBounds_toArray, List.set_cons_zero, List.set_cons_succ, i64_w, i32_w]
                             rfl
                           refine pure_ (i := 9) (N := some 48) (v := ?_) (a' := ?_) #[true, true, true, true, true, true, true, true, true, true, false, false, false, false, false] rfl rfl (any_of HT_.out (by kernel_rfl)) (fun _ _ _ h => h) (Or.inl ⟨by rfl, ?_⟩) ?_ ?_
                           rotate_left
                           · intro w'
                             go_simp
                             with_reducible rfl
                           rotate_left
                           · simp only [Act.put, List.setIfInBounds_toArray, List.set_cons_zero, List.set_cons_succ, i64_w, i32_w]
                             rfl
                           refine pure_ (i := 13) (N := some 52) (v := ?_) (a' := ?_) #[true, true, true, true, true, true, true, true, true, true, false, false, false, true, false] rfl rfl (any_of HT_.out (by kernel_rfl)) (fun _ _ _ h => h) (Or.inl ⟨by rfl, ?_⟩) ?_ ?_
                           rotate_left
                           · intro w'
                             go_simp
                             with_reducible rfl
                           rotate_left
                           · simp only [Act.put, List.setIfInBounds_toArray, List.set_cons_zero, List.set_cons_succ, i64_w, i32_w]
                             rfl
                           refine take_ (i := 10) (N := some 49) (v := ?_) (a' := ?_) #[true, true, true, true, true, true, true, true, true, true, true, false, false, true, false] rfl rfl (take_ofW HT_.out HW_.out (by kernel_rfl)) (fun _ _ _ h => h) (Or.inl ⟨by rfl, ?_⟩) hHeld ?_ ?_
                           rotate_left
                           · rintro w' ⟨s0, s1, s2, s3, s4, s5⟩
                             go_simp
                             with_reducible rfl
                           rotate_left
                           · simp only [Act.put, List.setIfInBounds_toArray, List.set_cons_zero, List.set_cons_succ, i64_w, i32_w]
                             rfl
                           refine take_ (i := 11) (N := some 50) (v := ?_) (a' := ?_) #[true, true, true, true, true, true, true, true, true, true, true, true, false, true, false] rfl rfl (take_ofW HT_.out HW_.out (by kernel_rfl)) (fun _ _ _ h => h) (Or.inl ⟨by rfl, ?_⟩) hHeld ?_ ?_
                           rotate_left
                           · rintro w' ⟨s0, s1, s2, s3, s4, s5⟩
                             go_simp
                             with_reducible rfl
                           rotate_left
                           · simp only [Act.put, List.setIfInBounds_toArray, List.set_cons_zero, List.set_cons_succ, i64_w, i32_w]
                             rfl
                           refine take_ (i := 12) (N := some 51) (v := ?_) (a' := ?_) #[true, true, true, true, true, true, true, true, true, true, true, true, true, true, false] rfl rfl (take_ofW HT_.out HW_.out (by kernel_rfl)) (fun _ _ _ h => h) (Or.inl ⟨by rfl, ?_⟩) hHeld ?_ ?_
                           rotate_left
                           · rintro w' ⟨s0, s1, s2, s3, s4, s5⟩
                             go_simp
                             with_reducible rfl
                           rotate_left
                           · simp only [Act.put, List.setIfInBounds_toArray, List.set_cons_zero, List.set_cons_succ, i64_w, i32_w]
                             rfl
                           refine one_ (i := 14) (N := some 53) #[true, true, true, true, true, true, true, true, true, true, true, true, true, true, true] rfl rfl (one_of HT_.out (by kernel_rfl)) (by decide) (fun K hK => ?_)
                           refine goes_ Try.func72 (by kernel_rfl) rfl #[.agg #[.int .i64 ((rd_T37 l0 (ji25)).f0), .int .i64 ((rd_T37 l0 (ji25)).f1)], .agg #[.int .i64 ((rd_T37 l0 x34_2).f0), .int .i64 ((rd_T37 l0 x34_2).f1)], .agg #[.int .i64 a1_0, .int .i64 a1_1], .int .i64 a2] (by rfl) rfl rfl (by (try simp only [List.map_toArray, List.map_cons, List.map_nil]); first | done | (simp only [hji25]; rfl) | rfl | (simp only [List.length_drop, List.length_take]; rfl)) ?_
                           with_reducible refine (polygon_near.calls ((rd_T37 l0 (ji25)).f0) ((rd_T37 l0 (ji25)).f1) ((rd_T37 l0 x34_2).f0) ((rd_T37 l0 x34_2).f1) a1_0 a1_1 a2 false _ A28.out).mono ?_
                           rintro e wze3 ⟨rfl, hb⟩
                           refine ⟨_, rfl, ?_⟩
                           have n0_ := Aside0.mk (blk_below (g := gb210) (o := .cells #[.int .i64 a1_0, .int .i64 a1_1] 37 (0, 0)) (by (with_reducible repeat (first | refine blk_drewN ?_ _ | refine blk_drew ?_ | refine blk_alloc ?_ _)); exact BK210.out) hb)
                           have n1_ := Aside0.mk (blk_below (g := gb215) (o := .cells #[.int .i64 ((rd_T37 l0 x34_2).f0), .int .i64 ((rd_T37 l0 x34_2).f1)] 37 (0, 0)) (by (with_reducible repeat (first | refine blk_drewN ?_ _ | refine blk_drew ?_ | refine blk_alloc ?_ _)); exact BK215.out) hb)
                           have n2_ := Aside0.mk (below_step (by repeat (first | (with_reducible first | exact HB.out | apply below_alloc | apply pw_below_drewN | apply below_drew1 | refine below_set ?_ GE210.out | refine below_set ?_ GE215.out) | exact HB.out)) hb)
                           clear BK210
                           clear BK215
                           clear HB
                           have BK210 := n0_
                           have BK215 := n1_
                           have HB := n2_
                           clear n0_ n1_ n2_
                           (try clear hb)
                           (try clear hb2)
                           (try clear hk)
                           (try clear hi)
                           refine hK.out _ _ ⟨(blk_cell BK215.out 0).trans rfl, (blk_cell BK215.out 1).trans rfl, (blk_cell BK210.out 0).trans rfl, (blk_cell BK210.out 1).trans rfl, ((HB.out.cell (World.block_lt_of_cell? w _ hw216_0)).trans hw216_0), ((HB.out.cell (World.block_lt_of_cell? w _ hw216_1)).trans hw216_1)⟩ (fun hHeld => ?_)
                           clear hK K
                           refine norm_ (a' := ?_) ?_ ?_
                           rotate_left
                           · show Act.put _ (some 53) _ = _
                             simp only [Act.put, List.setIfInBounds_toArray, List.set_cons_zero, List.set_cons_succ, i64_w, i32_w]
                             rfl
                           refine done_ (done_of HT_.out (by kernel_rfl)) ?_
                           try go_wp2
                           first | go_roundg k2 | (subst hji25; go_roundg k2)
                           case measure => have := HJ7.out; have := HK2.out; omega
                           case rel => exact ⟨(wrap64 (x34_2 + 1)), (by first | rfl | (simp; done) | (simp [*]; done)), H', ⟨by have := HJ7.out; have := HK2.out; omega⟩, ⟨by (with_reducible repeat (first | refine blk_drewN ?_ _ | refine blk_drew ?_ | refine blk_alloc ?_ _)); exact BK210.out⟩, ⟨by repeat (first | (with_reducible first | exact HB.out | apply below_alloc | apply pw_below_drewN | apply below_drew1 | refine below_set ?_ GE210.out | refine below_set ?_ GE215.out) | exact HB.out)⟩⟩
                       · rw [if_neg c27] at H
                         exact absurd H (by simp)
                     · rw [if_neg c26] at H
                       exact absurd H (by simp)
                 · rw [if_neg c23] at H
                   exact absurd H (by simp)
               · rw [if_neg c22] at H
                 exact absurd H (by simp)
             · rw [if_neg c21] at H
               have c21b0 : decide (x34_2 < (l0.length : Int)) = false := decide_eq_false c21
               clear c21
               simp only [Option.some.injEq, Prod.mk.injEq] at H
               obtain ⟨rfl, rfl⟩ := H
               go_wp2
               go_ret2
               exact ⟨by first | rfl | (simp [errW_none, errW_some] <;> rfl) | (simp [*, errW_none, errW_some] <;> rfl), by repeat (first | (with_reducible first | exact HB.out | apply below_alloc | apply pw_below_drewN | apply below_drew1 | refine below_set ?_ GE210.out) | exact HB.out)⟩
   | clear hm1_1
     go_wp2_with (first | ((with_reducible refine gate_dst (N := 4) rfl ?_); refine box_event ?hg (N := 4) ?hd (cs := #[.int .i64 a1_0, .int .i64 a1_1]) (t := 37) ?hr ?_; (case hd => rfl); (case hg => rfl); (case hr => first | (go_simp; done) | (go_simp; rfl)); intro gb210 hg wx32071 hbox hb; have n0_ := Aside0.mk (below_step (by repeat (first | (with_reducible first | exact HB.out | apply below_alloc | apply pw_below_drewN | apply below_drew1) | exact HB.out)) hb); have n1_ := Aside0.mk (hbox); have n2_ := Aside0.mk ((by rw [hg]; exact (below_size (by repeat (first | (with_reducible first | exact HB.out | apply below_alloc | apply pw_below_drewN | apply below_drew1) | exact HB.out))) : w.heap.size ≤ gb210)); have n3_ := Aside0.mk ((by rw [hg]; exact (below_size (by repeat (first | (with_reducible first | exact HB.out | apply below_alloc | apply pw_below_drewN | apply below_drew1) | exact HB.out))) : w.heap.size ≤ gb210)); clear HB; have HB := n0_; have BK210 := n1_; have GW210 := n2_; have GE210 := n3_; clear n0_ n1_ n2_ n3_; clear hb hbox hg) | ((with_reducible refine gate_callee (f := 70) rfl ?_); refine goesL_ (some 13) rfl rfl Try.func70 (by kernel_rfl) rfl #[.slice A0 l0.length c0] rfl (by (try simp only [List.map_toArray, List.map_cons, List.map_nil]); first | done | rfl | (simp only [List.length_drop, List.length_take]; rfl)) ?_; (with_reducible refine (polygon_Check.calls k _ _ l0 t211 _ ?side1 ?side2 A4.out).mono ?_); (case side1 => repeat (first | exact (Kd.C_below HR0.out HB.out) | (with_reducible refine Kd.C_alloc ?_ _) | (with_reducible refine Kd.C_drewN ?_ _) | (with_reducible refine Kd.C_drew ?_))); (case side2 => exact HC0.out); rintro e wx67e11 ⟨rfl, hb⟩; refine ⟨_, rfl, ?_⟩; have n0_ := Aside0.mk (blk_below (g := gb210) (o := .cells #[.int .i64 a1_0, .int .i64 a1_1] 37 (0, 0)) (by (with_reducible repeat (first | refine blk_drewN ?_ _ | refine blk_drew ?_ | refine blk_alloc ?_ _)); exact BK210.out) hb); have n1_ := Aside0.mk (below_step (by repeat (first | (with_reducible first | exact HB.out | apply below_alloc | apply pw_below_drewN | apply below_drew1 | refine below_set ?_ GE210.out) | exact HB.out)) hb); clear BK210; clear HB; have BK210 := n0_; have HB := n1_; clear n0_ n1_; (try clear hb); (try clear hb2); (try clear hk); (try clear hi); have hczx67e11 : wx67e11.cell? ⟨gb210, 0, none⟩ = some (.int .i64 a1_0) := (blk_cell BK210.out 0).trans rfl; have hczx67e12 : wx67e11.cell? ⟨gb210, 1, none⟩ = some (.int .i64 a1_1) := (blk_cell BK210.out 1).trans rfl; have hfzx67e11 := blk_frozen BK210.out 0; have hfzx67e12 := blk_frozen BK210.out 1) | ((with_reducible refine gate_callee (f := 70) rfl ?_); refine goesL_ (some 13) rfl rfl Try.func70 (by kernel_rfl) rfl #[.slice A0 l0.length c0] rfl (by (try simp only [List.map_toArray, List.map_cons, List.map_nil]); first | done | rfl | (simp only [List.length_drop, List.length_take]; rfl)) ?_; (with_reducible refine (polygon_Check.calls k _ _ l0 t211 _ ?side1 ?side2 A4.out).mono ?_); (case side1 => repeat (first | exact (Kd.C_below HR0.out HB.out) | (with_reducible refine Kd.C_alloc ?_ _) | (with_reducible refine Kd.C_drewN ?_ _) | (with_reducible refine Kd.C_drew ?_))); (case side2 => exact HC0.out); rintro e wx2c4f1 ⟨rfl, hb⟩; refine ⟨_, rfl, ?_⟩; have n0_ := Aside0.mk (blk_below (g := gb210) (o := .cells #[.int .i64 a1_0, .int .i64 a1_1] 37 (0, 0)) (by (with_reducible repeat (first | refine blk_drewN ?_ _ | refine blk_drew ?_ | refine blk_alloc ?_ _)); exact BK210.out) hb); have n1_ := Aside0.mk (below_step (by repeat (first | (with_reducible first | exact HB.out | apply below_alloc | apply pw_below_drewN | apply below_drew1 | refine below_set ?_ GE210.out) | exact HB.out)) hb); clear BK210; clear HB; have BK210 := n0_; have HB := n1_; clear n0_ n1_; (try clear hb); (try clear hb2); (try clear hk); (try clear hi)) | ((with_reducible refine gate_callee (f := 56) rfl ?_); refine goesL_ (some 18) rfl rfl Try.func56 (by kernel_rfl) rfl #[.agg #[.int .i64 a1_0, .int .i64 a1_1]] rfl (by (try simp only [List.map_toArray, List.map_cons, List.map_nil]); first | done | rfl | (simp only [List.length_drop, List.length_take]; rfl)) ?_; (with_reducible refine (plane_Check.calls a1_0 a1_1 t212 _ A6.out).mono ?_); rintro e wxd2b11 ⟨rfl, hb⟩; refine ⟨_, rfl, ?_⟩; have n0_ := Aside0.mk (blk_below (g := gb210) (o := .cells #[.int .i64 a1_0, .int .i64 a1_1] 37 (0, 0)) (by (with_reducible repeat (first | refine blk_drewN ?_ _ | refine blk_drew ?_ | refine blk_alloc ?_ _)); exact BK210.out) hb); have n1_ := Aside0.mk (below_step (by repeat (first | (with_reducible first | exact HB.out | apply below_alloc | apply pw_below_drewN | apply below_drew1 | refine below_set ?_ GE210.out) | exact HB.out)) hb); clear BK210; clear HB; have BK210 := n0_; have HB := n1_; clear n0_ n1_; (try clear hb); (try clear hb2); (try clear hk); (try clear hi)))
     go_ret2
     exact ⟨by first | rfl | (simp [errW_none, errW_some] <;> rfl) | (simp [*, errW_none, errW_some] <;> rfl), by repeat (first | (with_reducible first | exact HB.out | apply below_alloc | apply pw_below_drewN | apply below_drew1 | refine below_set ?_ GE210.out) | exact HB.out)⟩

/-! ### skywaykeep1_polygonWorks: function 39 -/
def skywaykeep1_polygonWorks.f (k : Nat)  : Option (Bool) := (some (([(⟨0, 0⟩ : S37), (⟨4, 0⟩ : S37), (⟨4, 4⟩ : S37), (⟨0, 4⟩ : S37)] : List (S37)) : List (S37))).bind fun y218 => ((polygon_Apart.f k y218 7 8 4).bind fun bt221 => ((polygon_Apart.f k y218 7 8 5).bind fun bt223 => (if bt221.2 = 0 then (if bt221.1 = true then (if bt223.2 = 0 then (some (!bt223.1)) else (some false)) else (some false)) else (some false))))
theorem skywaykeep1_polygonWorks.mono : ∀ k, LeO (skywaykeep1_polygonWorks.f k ) (skywaykeep1_polygonWorks.f (k + 1) ) := by
  intro  k
  unfold skywaykeep1_polygonWorks.f
  repeat' first
      | (with_reducible exact polygon_Apart.mono _ _ _ _ _)
      | (with_reducible exact LeO.refl _)
      | (with_reducible exact LeO.none _)
      | (with_reducible refine LeO.ite ?_ ?_)
      | (with_reducible refine LeO.bind ?_ (fun _ => ?_))
      | exact polygon_Apart.mono _ _ _ _ _
      | exact LeO.none _
      | refine LeO.ite ?_ ?_
      | refine LeO.bind ?_ (fun _ => ?_)
set_option maxHeartbeats 8000000 in
set_option maxRecDepth 100000 in
theorem skywaykeep1_polygonWorks.calls (k : Nat)  (r : Bool) (w : World) (h : skywaykeep1_polygonWorks.f k  = some r) :
    Calls Try.prog 39 #[] w fun e w' => e = .returned (.bool r) ∧ Below w.heap.size w w' := by
 have hu37 := Try.underlying37
 have HB := Aside0.mk (Below.refl w.heap.size w)
 have H : ((some (([(⟨0, 0⟩ : S37), (⟨4, 0⟩ : S37), (⟨4, 4⟩ : S37), (⟨0, 4⟩ : S37)] : List (S37)) : List (S37))).bind fun y218 => ((polygon_Apart.f k y218 7 8 4).bind fun bt221 => ((polygon_Apart.f k y218 7 8 5).bind fun bt223 => (if bt221.2 = 0 then (if bt221.1 = true then (if bt223.2 = 0 then (some (!bt223.1)) else (some false)) else (some false)) else (some false))))) = some r := h
 clear h
 obtain ⟨y218, hy218⟩ : ∃ y_ : List (S37), y_ = (([(⟨0, 0⟩ : S37), (⟨4, 0⟩ : S37), (⟨4, 4⟩ : S37), (⟨0, 4⟩ : S37)] : List (S37))) := ⟨_, rfl⟩
 replace H : ((polygon_Apart.f k y218 7 8 4).bind fun bt221 => ((polygon_Apart.f k y218 7 8 5).bind fun bt223 => (if bt221.2 = 0 then (if bt221.1 = true then (if bt223.2 = 0 then (some (!bt223.1)) else (some false)) else (some false)) else (some false)))) = some r := by first | (rw [hy218]; with_reducible exact H) | (have H2_ := (Option.bind_some _ _).symm.trans H; rw [hy218]; with_reducible exact H2_) | (have H2_ := (Option.bind_some _ _).symm.trans H; with_reducible exact H2_) | with_reducible exact H | (rw [hy218]; exact H) | exact H
 have Ny218 := Aside0.mk hy218
 clear hy218
 replace H := Option.bind_eq_some_iff.mp H
 obtain ⟨⟨t221, t222⟩, A10, H⟩ := H
 replace H : ((polygon_Apart.f k y218 7 8 5).bind fun bt223 => (if t222 = 0 then (if t221 = true then (if bt223.2 = 0 then (some (!bt223.1)) else (some false)) else (some false)) else (some false))) = some r := H
 have A1 := Aside0.mk A10
 clear A10
 replace H := Option.bind_eq_some_iff.mp H
 obtain ⟨⟨t223, t224⟩, A20, H⟩ := H
 replace H : (if t222 = 0 then (if t221 = true then (if t224 = 0 then (some (!t223)) else (some false)) else (some false)) else (some false)) = some r := H
 have A2 := Aside0.mk A20
 clear A20
 refine Or.elim (Classical.em (t222 = 0)) (fun c3 => ?p2_) (fun c3 => ?n2_)
 case' p2_ =>
  rw [if_pos c3] at H
  have c3b0 : (t222 == 0) = true := beq_iff_eq.mpr c3
  have c3b1 : (t222 != 0) = false := bne_eq_false_iff_eq.mpr c3
  clear c3
  refine Or.elim (Classical.em (t221 = true)) (fun c4 => ?p3_) (fun c4 => ?n3_)
  case' p3_ =>
   subst c4
   have H1 : (if t224 = 0 then (some (!t223)) else (some false)) = some r := by rw [if_pos rfl] at H; exact H
   clear H
   have H := H1
   clear H1
   refine Or.elim (Classical.em (t224 = 0)) (fun c5 => ?p4_) (fun c5 => ?n4_)
   case' p4_ =>
    rw [if_pos c5] at H
    have c5b0 : (t224 == 0) = true := beq_iff_eq.mpr c5
    have c5b1 : (t224 != 0) = false := bne_eq_false_iff_eq.mpr c5
    clear c5
   case' n4_ =>
    rw [if_neg c5] at H
    have c5b0 : (t224 == 0) = false := beq_eq_false_iff_ne.mpr c5
    have c5b1 : (t224 != 0) = true := bne_iff_ne.mpr c5
  case' n3_ =>
   replace c4 := Bool.eq_false_iff.mpr c4
   subst c4
   have H1 : (some false) = some r := by rw [if_neg (show ¬ (false = true) by decide)] at H; exact H
   clear H
   have H := H1
   clear H1
 case' n2_ =>
  rw [if_neg c3] at H
  have c3b0 : (t222 == 0) = false := beq_eq_false_iff_ne.mpr c3
  have c3b1 : (t222 != 0) = true := bne_iff_ne.mpr c3
 all_goals
  obtain rfl := Option.some.inj H
  go_enter Try.func39, Try.ntmps39
  go_wp2_with (first | ((with_reducible refine gate_dst (N := 10) rfl ?_); refine Kd.R_lit k37 _ 37 ?hg (N := 10) ?hd (xs := ([(⟨0, 0⟩ : S37), (⟨4, 0⟩ : S37), (⟨4, 4⟩ : S37), (⟨0, 4⟩ : S37)] : List (S37))) (inner := [.int .i64 0, .int .i64 0, .int .i64 4, .int .i64 0, .int .i64 4, .int .i64 4, .int .i64 0, .int .i64 4]) (ok := fun _ => True) (okp := fun _ => True) ?hr ?hp (fun _ hk => hk) trivial (Below.refl _ _) (Nat.le_refl _) (by simp) ?_; (case hd => rfl); (case hg => rfl); (case hr => first | (go_simp; done) | (go_simp; rfl)); (case hp => exact (Reps.c2 (show Kd.M k37 _ _ _ (⟨0, 0⟩ : S37) [.int .i64 0, .int .i64 0] from (k37_mkM _ _ _ (⟨0, 0⟩ : S37) )) (Reps.c2 (show Kd.M k37 _ _ _ (⟨4, 0⟩ : S37) [.int .i64 4, .int .i64 0] from (k37_mkM _ _ _ (⟨4, 0⟩ : S37) )) (Reps.c2 (show Kd.M k37 _ _ _ (⟨4, 4⟩ : S37) [.int .i64 4, .int .i64 4] from (k37_mkM _ _ _ (⟨4, 4⟩ : S37) )) (Reps.c2 (show Kd.M k37 _ _ _ (⟨0, 4⟩ : S37) [.int .i64 0, .int .i64 4] from (k37_mkM _ _ _ (⟨0, 4⟩ : S37) )) (Reps.none _ _)))))); intro v219 wxe7971 hoxe7971 hb hg_ hnew_; clear hg_ hnew_; (first | rw [← Ny218.out] at hoxe7971 | (simp only [Int.reduceToNat] at hoxe7971; rw [← Ny218.out] at hoxe7971)); have n0_ := Aside0.mk (Kd.R_lower hoxe7971 (below_size (by repeat (first | (with_reducible first | exact HB.out | apply below_alloc | apply pw_below_drewN | apply below_drew1) | exact HB.out)))); have n1_ := Aside0.mk (below_step (by repeat (first | (with_reducible first | exact HB.out | apply below_alloc | apply pw_below_drewN | apply below_drew1) | exact HB.out)) hb); clear HB; have HO220 := n0_; have HB := n1_; clear n0_ n1_; clear hb hoxe7971; obtain ⟨Aoxe7971, coxe7971, eoxe7971⟩ := Kd.R_slice HO220.out; subst eoxe7971) | ((with_reducible refine gate_callee (f := 60) rfl ?_); refine goesL_ (some 14) rfl rfl Try.func60 (by kernel_rfl) rfl #[.slice Aoxe7971 y218.length coxe7971, .agg #[.int .i64 7, .int .i64 8], .int .i64 4] rfl (by (try simp only [List.map_toArray, List.map_cons, List.map_nil]); first | done | rfl | (simp only [List.length_drop, List.length_take]; rfl)) ?_; (with_reducible refine (polygon_Apart.calls k _ _ y218 7 8 4 false t222 _ ?side1 ?side2 A1.out).mono ?_); (case side1 => repeat (first | exact (Kd.R_reads' HO220.out).2.2 | (with_reducible refine Kd.C_alloc ?_ _) | (with_reducible refine Kd.C_drewN ?_ _) | (with_reducible refine Kd.C_drew ?_))); (case side2 => exact (Kd.R_reads' HO220.out).2.1); rintro e wxe6be1 ⟨rfl, hb⟩; refine ⟨_, rfl, ?_⟩; have n0_ := Aside0.mk (Kd.R_below (by (with_reducible repeat (first | apply Kd.R_alloc | apply Kd.R_drewN | apply Kd.R_drew)); exact HO220.out) hb); have n1_ := Aside0.mk (below_step (by repeat (first | (with_reducible first | exact HB.out | apply below_alloc | apply pw_below_drewN | apply below_drew1) | exact HB.out)) hb); clear HO220; clear HB; have HO220 := n0_; have HB := n1_; clear n0_ n1_; (try clear hb); (try clear hb2); (try clear hk); (try clear hi)) | ((with_reducible refine gate_callee (f := 60) rfl ?_); refine goesL_ (some 14) rfl rfl Try.func60 (by kernel_rfl) rfl #[.slice Aoxe7971 y218.length coxe7971, .agg #[.int .i64 7, .int .i64 8], .int .i64 4] rfl (by (try simp only [List.map_toArray, List.map_cons, List.map_nil]); first | done | rfl | (simp only [List.length_drop, List.length_take]; rfl)) ?_; (with_reducible refine (polygon_Apart.calls k _ _ y218 7 8 4 true t222 _ ?side1 ?side2 A1.out).mono ?_); (case side1 => repeat (first | exact (Kd.R_reads' HO220.out).2.2 | (with_reducible refine Kd.C_alloc ?_ _) | (with_reducible refine Kd.C_drewN ?_ _) | (with_reducible refine Kd.C_drew ?_))); (case side2 => exact (Kd.R_reads' HO220.out).2.1); rintro e wx1cec1 ⟨rfl, hb⟩; refine ⟨_, rfl, ?_⟩; have n0_ := Aside0.mk (Kd.R_below (by (with_reducible repeat (first | apply Kd.R_alloc | apply Kd.R_drewN | apply Kd.R_drew)); exact HO220.out) hb); have n1_ := Aside0.mk (below_step (by repeat (first | (with_reducible first | exact HB.out | apply below_alloc | apply pw_below_drewN | apply below_drew1) | exact HB.out)) hb); clear HO220; clear HB; have HO220 := n0_; have HB := n1_; clear n0_ n1_; (try clear hb); (try clear hb2); (try clear hk); (try clear hi)) | ((with_reducible refine gate_callee (f := 60) rfl ?_); refine goesL_ (some 14) rfl rfl Try.func60 (by kernel_rfl) rfl #[.slice Aoxe7971 y218.length coxe7971, .agg #[.int .i64 7, .int .i64 8], .int .i64 4] rfl (by (try simp only [List.map_toArray, List.map_cons, List.map_nil]); first | done | rfl | (simp only [List.length_drop, List.length_take]; rfl)) ?_; (with_reducible refine (polygon_Apart.calls k _ _ y218 7 8 4 t221 t222 _ ?side1 ?side2 A1.out).mono ?_); (case side1 => repeat (first | exact (Kd.R_reads' HO220.out).2.2 | (with_reducible refine Kd.C_alloc ?_ _) | (with_reducible refine Kd.C_drewN ?_ _) | (with_reducible refine Kd.C_drew ?_))); (case side2 => exact (Kd.R_reads' HO220.out).2.1); rintro e wx20381 ⟨rfl, hb⟩; refine ⟨_, rfl, ?_⟩; have n0_ := Aside0.mk (Kd.R_below (by (with_reducible repeat (first | apply Kd.R_alloc | apply Kd.R_drewN | apply Kd.R_drew)); exact HO220.out) hb); have n1_ := Aside0.mk (below_step (by repeat (first | (with_reducible first | exact HB.out | apply below_alloc | apply pw_below_drewN | apply below_drew1) | exact HB.out)) hb); clear HO220; clear HB; have HO220 := n0_; have HB := n1_; clear n0_ n1_; (try clear hb); (try clear hb2); (try clear hk); (try clear hi)) | ((with_reducible refine gate_callee (f := 60) rfl ?_); refine goesL_ (some 20) rfl rfl Try.func60 (by kernel_rfl) rfl #[.slice Aoxe7971 y218.length coxe7971, .agg #[.int .i64 7, .int .i64 8], .int .i64 5] rfl (by (try simp only [List.map_toArray, List.map_cons, List.map_nil]); first | done | rfl | (simp only [List.length_drop, List.length_take]; rfl)) ?_; (with_reducible refine (polygon_Apart.calls k _ _ y218 7 8 5 t223 t224 _ ?side1 ?side2 A2.out).mono ?_); (case side1 => repeat (first | exact (Kd.R_reads' HO220.out).2.2 | (with_reducible refine Kd.C_alloc ?_ _) | (with_reducible refine Kd.C_drewN ?_ _) | (with_reducible refine Kd.C_drew ?_))); (case side2 => exact (Kd.R_reads' HO220.out).2.1); rintro e wx8c4f1 ⟨rfl, hb⟩; refine ⟨_, rfl, ?_⟩; have n0_ := Aside0.mk (Kd.R_below (by (with_reducible repeat (first | apply Kd.R_alloc | apply Kd.R_drewN | apply Kd.R_drew)); exact HO220.out) hb); have n1_ := Aside0.mk (below_step (by repeat (first | (with_reducible first | exact HB.out | apply below_alloc | apply pw_below_drewN | apply below_drew1) | exact HB.out)) hb); clear HO220; clear HB; have HO220 := n0_; have HB := n1_; clear n0_ n1_; (try clear hb); (try clear hb2); (try clear hk); (try clear hi)))
  go_ret
  exact ⟨by first | rfl | (simp [errW_none, errW_some] <;> rfl) | (simp [*, errW_none, errW_some] <;> rfl), by repeat (first | (with_reducible first | exact HB.out | apply below_alloc | apply pw_below_drewN | apply below_drew1) | exact HB.out)⟩

/-! ### skywaykeep1_PolygonCommon: function 13 -/
def skywaykeep1_PolygonCommon.f (k : Nat) (a0_0 : Int) (a0_1 : Int) (a1_0 : Int) (a1_1 : Int) (a2_0 : Int) (a2_1 : Int) (a3_0 : Int) (a3_1 : Int) : Option (Bool) := (skywaykeep1_polygonWorks.f k).bind fun t229 => (if t229 = true then ((skywaykeep1_near.f k (([(⟨a0_0, a0_1⟩ : S37), (⟨a1_0, a1_1⟩ : S37), (⟨a2_0, a2_1⟩ : S37), (⟨a3_0, a3_1⟩ : S37)] : List (S37)))).bind fun t233 => (if t233 = true then ((polygon_Common.f k a0_0 a0_1 a1_0 a1_1 a2_0 a2_1 a3_0 a3_1).bind fun t234 => ((polygon_Common.f k a2_0 a2_1 a3_0 a3_1 a0_0 a0_1 a1_0 a1_1).bind fun t235 => (if (t235 == t234) = true then ((polygon_Common.f k a1_0 a1_1 a0_0 a0_1 a3_0 a3_1 a2_0 a2_1).bind fun t236 => (if (t236 == t234) = true then ((polygon_Common.f k a0_0 a0_1 a1_0 a1_1 a0_0 a0_1 a2_0 a2_1).bind fun t237 => (some t237)) else (some false))) else (some false)))) else (some true))) else (some false))
theorem skywaykeep1_PolygonCommon.mono : ∀ a0 a1 a2 a3 a4 a5 a6 a7 k, LeO (skywaykeep1_PolygonCommon.f k a0 a1 a2 a3 a4 a5 a6 a7) (skywaykeep1_PolygonCommon.f (k + 1) a0 a1 a2 a3 a4 a5 a6 a7) := by
  intro a0 a1 a2 a3 a4 a5 a6 a7 k
  unfold skywaykeep1_PolygonCommon.f
  repeat' first
      | (with_reducible exact polygon_Common.mono _ _ _ _ _ _ _ _ _)
      | (with_reducible exact skywaykeep1_near.mono _ _)
      | (with_reducible exact skywaykeep1_polygonWorks.mono _)
      | (with_reducible exact LeO.refl _)
      | (with_reducible exact LeO.none _)
      | (with_reducible refine LeO.ite ?_ ?_)
      | (with_reducible refine LeO.bind ?_ (fun _ => ?_))
      | exact polygon_Common.mono _ _ _ _ _ _ _ _ _
      | exact skywaykeep1_near.mono _ _
      | exact skywaykeep1_polygonWorks.mono _
      | exact LeO.none _
      | refine LeO.ite ?_ ?_
      | refine LeO.bind ?_ (fun _ => ?_)
set_option maxHeartbeats 8000000 in
set_option maxRecDepth 100000 in
theorem skywaykeep1_PolygonCommon.calls (k : Nat) (a0_0 : Int) (a0_1 : Int) (a1_0 : Int) (a1_1 : Int) (a2_0 : Int) (a2_1 : Int) (a3_0 : Int) (a3_1 : Int) (r : Bool) (w : World) (h : skywaykeep1_PolygonCommon.f k a0_0 a0_1 a1_0 a1_1 a2_0 a2_1 a3_0 a3_1 = some r) :
    Calls Try.prog 13 #[.agg #[.int .i64 a0_0, .int .i64 a0_1], .agg #[.int .i64 a1_0, .int .i64 a1_1], .agg #[.int .i64 a2_0, .int .i64 a2_1], .agg #[.int .i64 a3_0, .int .i64 a3_1]] w fun e w' => e = .returned (.bool r) ∧ Below w.heap.size w w' := by
 have hu37 := Try.underlying37
 have HB := Aside0.mk (Below.refl w.heap.size w)
 have H : ((skywaykeep1_polygonWorks.f k).bind fun t229 => (if t229 = true then ((skywaykeep1_near.f k (([(⟨a0_0, a0_1⟩ : S37), (⟨a1_0, a1_1⟩ : S37), (⟨a2_0, a2_1⟩ : S37), (⟨a3_0, a3_1⟩ : S37)] : List (S37)))).bind fun t233 => (if t233 = true then ((polygon_Common.f k a0_0 a0_1 a1_0 a1_1 a2_0 a2_1 a3_0 a3_1).bind fun t234 => ((polygon_Common.f k a2_0 a2_1 a3_0 a3_1 a0_0 a0_1 a1_0 a1_1).bind fun t235 => (if (t235 == t234) = true then ((polygon_Common.f k a1_0 a1_1 a0_0 a0_1 a3_0 a3_1 a2_0 a2_1).bind fun t236 => (if (t236 == t234) = true then ((polygon_Common.f k a0_0 a0_1 a1_0 a1_1 a0_0 a0_1 a2_0 a2_1).bind fun t237 => (some t237)) else (some false))) else (some false)))) else (some true))) else (some false))) = some r := h
 clear h
 replace H := Option.bind_eq_some_iff.mp H
 obtain ⟨t229, A50, H⟩ := H
 replace H : (if t229 = true then ((skywaykeep1_near.f k (([(⟨a0_0, a0_1⟩ : S37), (⟨a1_0, a1_1⟩ : S37), (⟨a2_0, a2_1⟩ : S37), (⟨a3_0, a3_1⟩ : S37)] : List (S37)))).bind fun t233 => (if t233 = true then ((polygon_Common.f k a0_0 a0_1 a1_0 a1_1 a2_0 a2_1 a3_0 a3_1).bind fun t234 => ((polygon_Common.f k a2_0 a2_1 a3_0 a3_1 a0_0 a0_1 a1_0 a1_1).bind fun t235 => (if (t235 == t234) = true then ((polygon_Common.f k a1_0 a1_1 a0_0 a0_1 a3_0 a3_1 a2_0 a2_1).bind fun t236 => (if (t236 == t234) = true then ((polygon_Common.f k a0_0 a0_1 a1_0 a1_1 a0_0 a0_1 a2_0 a2_1).bind fun t237 => (some t237)) else (some false))) else (some false)))) else (some true))) else (some false)) = some r := H
 have A5 := Aside0.mk A50
 clear A50
 refine Or.elim (Classical.em (t229 = true)) (fun c6 => ?p2_) (fun c6 => ?n2_)
 case' p2_ =>
  subst c6
  have H1 : ((skywaykeep1_near.f k (([(⟨a0_0, a0_1⟩ : S37), (⟨a1_0, a1_1⟩ : S37), (⟨a2_0, a2_1⟩ : S37), (⟨a3_0, a3_1⟩ : S37)] : List (S37)))).bind fun t233 => (if t233 = true then ((polygon_Common.f k a0_0 a0_1 a1_0 a1_1 a2_0 a2_1 a3_0 a3_1).bind fun t234 => ((polygon_Common.f k a2_0 a2_1 a3_0 a3_1 a0_0 a0_1 a1_0 a1_1).bind fun t235 => (if (t235 == t234) = true then ((polygon_Common.f k a1_0 a1_1 a0_0 a0_1 a3_0 a3_1 a2_0 a2_1).bind fun t236 => (if (t236 == t234) = true then ((polygon_Common.f k a0_0 a0_1 a1_0 a1_1 a0_0 a0_1 a2_0 a2_1).bind fun t237 => (some t237)) else (some false))) else (some false)))) else (some true))) = some r := by rw [if_pos rfl] at H; exact H
  clear H
  have H := H1
  clear H1
  obtain ⟨y230, hy230⟩ : ∃ y_ : List (S37), y_ = (([(⟨a0_0, a0_1⟩ : S37), (⟨a1_0, a1_1⟩ : S37), (⟨a2_0, a2_1⟩ : S37), (⟨a3_0, a3_1⟩ : S37)] : List (S37))) := ⟨_, rfl⟩
  replace H : ((skywaykeep1_near.f k y230).bind fun t233 => (if t233 = true then ((polygon_Common.f k a0_0 a0_1 a1_0 a1_1 a2_0 a2_1 a3_0 a3_1).bind fun t234 => ((polygon_Common.f k a2_0 a2_1 a3_0 a3_1 a0_0 a0_1 a1_0 a1_1).bind fun t235 => (if (t235 == t234) = true then ((polygon_Common.f k a1_0 a1_1 a0_0 a0_1 a3_0 a3_1 a2_0 a2_1).bind fun t236 => (if (t236 == t234) = true then ((polygon_Common.f k a0_0 a0_1 a1_0 a1_1 a0_0 a0_1 a2_0 a2_1).bind fun t237 => (some t237)) else (some false))) else (some false)))) else (some true))) = some r := by first | (rw [hy230]; with_reducible exact H) | (have H2_ := (Option.bind_some _ _).symm.trans H; rw [hy230]; with_reducible exact H2_) | (have H2_ := (Option.bind_some _ _).symm.trans H; with_reducible exact H2_) | with_reducible exact H | (rw [hy230]; exact H) | exact H
  have Ny230 := Aside0.mk hy230
  clear hy230
  replace H := Option.bind_eq_some_iff.mp H
  obtain ⟨t233, A70, H⟩ := H
  replace H : (if t233 = true then ((polygon_Common.f k a0_0 a0_1 a1_0 a1_1 a2_0 a2_1 a3_0 a3_1).bind fun t234 => ((polygon_Common.f k a2_0 a2_1 a3_0 a3_1 a0_0 a0_1 a1_0 a1_1).bind fun t235 => (if (t235 == t234) = true then ((polygon_Common.f k a1_0 a1_1 a0_0 a0_1 a3_0 a3_1 a2_0 a2_1).bind fun t236 => (if (t236 == t234) = true then ((polygon_Common.f k a0_0 a0_1 a1_0 a1_1 a0_0 a0_1 a2_0 a2_1).bind fun t237 => (some t237)) else (some false))) else (some false)))) else (some true)) = some r := H
  have A7 := Aside0.mk A70
  clear A70
  refine Or.elim (Classical.em (t233 = true)) (fun c8 => ?p3_) (fun c8 => ?n3_)
  case' p3_ =>
   subst c8
   have H1 : ((polygon_Common.f k a0_0 a0_1 a1_0 a1_1 a2_0 a2_1 a3_0 a3_1).bind fun t234 => ((polygon_Common.f k a2_0 a2_1 a3_0 a3_1 a0_0 a0_1 a1_0 a1_1).bind fun t235 => (if (t235 == t234) = true then ((polygon_Common.f k a1_0 a1_1 a0_0 a0_1 a3_0 a3_1 a2_0 a2_1).bind fun t236 => (if (t236 == t234) = true then ((polygon_Common.f k a0_0 a0_1 a1_0 a1_1 a0_0 a0_1 a2_0 a2_1).bind fun t237 => (some t237)) else (some false))) else (some false)))) = some r := by rw [if_pos rfl] at H; exact H
   clear H
   have H := H1
   clear H1
   replace H := Option.bind_eq_some_iff.mp H
   obtain ⟨t234, A90, H⟩ := H
   replace H : ((polygon_Common.f k a2_0 a2_1 a3_0 a3_1 a0_0 a0_1 a1_0 a1_1).bind fun t235 => (if (t235 == t234) = true then ((polygon_Common.f k a1_0 a1_1 a0_0 a0_1 a3_0 a3_1 a2_0 a2_1).bind fun t236 => (if (t236 == t234) = true then ((polygon_Common.f k a0_0 a0_1 a1_0 a1_1 a0_0 a0_1 a2_0 a2_1).bind fun t237 => (some t237)) else (some false))) else (some false))) = some r := H
   have A9 := Aside0.mk A90
   clear A90
   replace H := Option.bind_eq_some_iff.mp H
   obtain ⟨t235, A100, H⟩ := H
   replace H : (if (t235 == t234) = true then ((polygon_Common.f k a1_0 a1_1 a0_0 a0_1 a3_0 a3_1 a2_0 a2_1).bind fun t236 => (if (t236 == t234) = true then ((polygon_Common.f k a0_0 a0_1 a1_0 a1_1 a0_0 a0_1 a2_0 a2_1).bind fun t237 => (some t237)) else (some false))) else (some false)) = some r := H
   have A10 := Aside0.mk A100
   clear A100
   refine Or.elim (Classical.em ((t235 == t234) = true)) (fun c11 => ?p4_) (fun c11 => ?n4_)
   case' p4_ =>
    rw [if_pos c11] at H
    have c11b0 : (t235 == t234) = true := c11
    (try (have c11b1 : decide (t235 = t234) = true := by simpa using c11))
    (try (have c11b2 : (t235 == t234) = true := by simpa using c11))
    clear c11
    replace H := Option.bind_eq_some_iff.mp H
    obtain ⟨t236, A120, H⟩ := H
    replace H : (if (t236 == t234) = true then ((polygon_Common.f k a0_0 a0_1 a1_0 a1_1 a0_0 a0_1 a2_0 a2_1).bind fun t237 => (some t237)) else (some false)) = some r := H
    have A12 := Aside0.mk A120
    clear A120
    refine Or.elim (Classical.em ((t236 == t234) = true)) (fun c13 => ?p5_) (fun c13 => ?n5_)
    case' p5_ =>
     rw [if_pos c13] at H
     have c13b0 : (t236 == t234) = true := c13
     (try (have c13b1 : decide (t236 = t234) = true := by simpa using c13))
     (try (have c13b2 : (t236 == t234) = true := by simpa using c13))
     clear c13
     replace H := Option.bind_eq_some_iff.mp H
     obtain ⟨t237, A140, H⟩ := H
     replace H : (some t237) = some r := H
     have A14 := Aside0.mk A140
     clear A140
    case' n5_ =>
     rw [if_neg c13] at H
     have c13b0 : (t236 == t234) = false := by simpa using c13
     (try (have c13b1 : decide (t236 = t234) = false := by simpa using c13))
     (try (have c13b2 : (t236 == t234) = false := by simpa using c13))
     (try (have c13b3 : ¬ (t236 = t234) := by simpa using c13))
     clear c13
   case' n4_ =>
    rw [if_neg c11] at H
    have c11b0 : (t235 == t234) = false := by simpa using c11
    (try (have c11b1 : decide (t235 = t234) = false := by simpa using c11))
    (try (have c11b2 : (t235 == t234) = false := by simpa using c11))
    (try (have c11b3 : ¬ (t235 = t234) := by simpa using c11))
    clear c11
  case' n3_ =>
   replace c8 := Bool.eq_false_iff.mpr c8
   subst c8
   have H1 : (some true) = some r := by rw [if_neg (show ¬ (false = true) by decide)] at H; exact H
   clear H
   have H := H1
   clear H1
 case' n2_ =>
  replace c6 := Bool.eq_false_iff.mpr c6
  subst c6
  have H1 : (some false) = some r := by rw [if_neg (show ¬ (false = true) by decide)] at H; exact H
  clear H
  have H := H1
  clear H1
 all_goals
  obtain rfl := Option.some.inj H
  go_enter Try.func13, Try.ntmps13
  go_wp2_with (first | ((with_reducible refine gate_dst (N := 4) rfl ?_); refine box_event ?hg (N := 4) ?hd (cs := #[.int .i64 a0_0, .int .i64 a0_1]) (t := 37) ?hr ?_; (case hd => rfl); (case hg => rfl); (case hr => first | (go_simp; done) | (go_simp; rfl)); intro gb225 hg wx2fd61 hbox hb; have n0_ := Aside0.mk (below_step (by repeat (first | (with_reducible first | exact HB.out | apply below_alloc | apply pw_below_drewN | apply below_drew1) | exact HB.out)) hb); have n1_ := Aside0.mk (hbox); have n2_ := Aside0.mk ((by rw [hg]; exact (below_size (by repeat (first | (with_reducible first | exact HB.out | apply below_alloc | apply pw_below_drewN | apply below_drew1) | exact HB.out))) : w.heap.size ≤ gb225)); have n3_ := Aside0.mk ((by rw [hg]; exact (below_size (by repeat (first | (with_reducible first | exact HB.out | apply below_alloc | apply pw_below_drewN | apply below_drew1) | exact HB.out))) : w.heap.size ≤ gb225)); clear HB; have HB := n0_; have BK225 := n1_; have GW225 := n2_; have GE225 := n3_; clear n0_ n1_ n2_ n3_; clear hb hbox hg) | ((with_reducible refine gate_dst (N := 5) rfl ?_); refine box_event ?hg (N := 5) ?hd (cs := #[.int .i64 a1_0, .int .i64 a1_1]) (t := 37) ?hr ?_; (case hd => rfl); (case hg => rfl); (case hr => first | (go_simp; done) | (go_simp; rfl)); intro gb226 hg wx8dae1 hbox hb; have n0_ := Aside0.mk (blk_below (g := gb225) (o := .cells #[.int .i64 a0_0, .int .i64 a0_1] 37 (0, 0)) (by (with_reducible repeat (first | refine blk_drewN ?_ _ | refine blk_drew ?_ | refine blk_alloc ?_ _)); exact BK225.out) hb); have n1_ := Aside0.mk (below_step (by repeat (first | (with_reducible first | exact HB.out | apply below_alloc | apply pw_below_drewN | apply below_drew1 | refine below_set ?_ GE225.out) | exact HB.out)) hb); have n2_ := Aside0.mk (hbox); have n3_ := Aside0.mk ((by rw [hg]; exact (below_size (by repeat (first | (with_reducible first | exact HB.out | apply below_alloc | apply pw_below_drewN | apply below_drew1 | refine below_set ?_ GE225.out) | exact HB.out))) : w.heap.size ≤ gb226)); have n4_ := Aside0.mk ((by rw [hg]; exact (below_size (by repeat (first | (with_reducible first | exact HB.out | apply below_alloc | apply pw_below_drewN | apply below_drew1 | refine below_set ?_ GE225.out) | exact HB.out))) : w.heap.size ≤ gb226)); have n5_ := Aside0.mk ((by rw [hg]; exact Nat.ne_of_lt (blk_lt (g := gb225) (o := .cells #[.int .i64 a0_0, .int .i64 a0_1] 37 (0, 0)) (by (with_reducible repeat (first | refine blk_drewN ?_ _ | refine blk_drew ?_ | refine blk_alloc ?_ _)); exact BK225.out)) : gb225 ≠ gb226)); have n6_ := Aside0.mk ((by rw [hg]; exact Nat.ne_of_gt (blk_lt (g := gb225) (o := .cells #[.int .i64 a0_0, .int .i64 a0_1] 37 (0, 0)) (by (with_reducible repeat (first | refine blk_drewN ?_ _ | refine blk_drew ?_ | refine blk_alloc ?_ _)); exact BK225.out)) : gb226 ≠ gb225)); clear BK225; clear HB; have BK225 := n0_; have HB := n1_; have BK226 := n2_; have GW226 := n3_; have GE226 := n4_; have NB225_226 := n5_; have NB226_225 := n6_; clear n0_ n1_ n2_ n3_ n4_ n5_ n6_; clear hb hbox hg) | ((with_reducible refine gate_dst (N := 6) rfl ?_); refine box_event ?hg (N := 6) ?hd (cs := #[.int .i64 a2_0, .int .i64 a2_1]) (t := 37) ?hr ?_; (case hd => rfl); (case hg => rfl); (case hr => first | (go_simp; done) | (go_simp; rfl)); intro gb227 hg wx2c021 hbox hb; have n0_ := Aside0.mk (blk_below (g := gb225) (o := .cells #[.int .i64 a0_0, .int .i64 a0_1] 37 (0, 0)) (by (with_reducible repeat (first | refine blk_drewN ?_ _ | refine blk_drew ?_ | refine blk_alloc ?_ _)); exact BK225.out) hb); have n1_ := Aside0.mk (blk_below (g := gb226) (o := .cells #[.int .i64 a1_0, .int .i64 a1_1] 37 (0, 0)) (by (with_reducible repeat (first | refine blk_drewN ?_ _ | refine blk_drew ?_ | refine blk_alloc ?_ _)); exact BK226.out) hb); have n2_ := Aside0.mk (below_step (by repeat (first | (with_reducible first | exact HB.out | apply below_alloc | apply pw_below_drewN | apply below_drew1 | refine below_set ?_ GE225.out | refine below_set ?_ GE226.out) | exact HB.out)) hb); have n3_ := Aside0.mk (hbox); have n4_ := Aside0.mk ((by rw [hg]; exact (below_size (by repeat (first | (with_reducible first | exact HB.out | apply below_alloc | apply pw_below_drewN | apply below_drew1 | refine below_set ?_ GE225.out | refine below_set ?_ GE226.out) | exact HB.out))) : w.heap.size ≤ gb227)); have n5_ := Aside0.mk ((by rw [hg]; exact (below_size (by repeat (first | (with_reducible first | exact HB.out | apply below_alloc | apply pw_below_drewN | apply below_drew1 | refine below_set ?_ GE225.out | refine below_set ?_ GE226.out) | exact HB.out))) : w.heap.size ≤ gb227)); have n6_ := Aside0.mk ((by rw [hg]; exact Nat.ne_of_lt (blk_lt (g := gb225) (o := .cells #[.int .i64 a0_0, .int .i64 a0_1] 37 (0, 0)) (by (with_reducible repeat (first | refine blk_drewN ?_ _ | refine blk_drew ?_ | refine blk_alloc ?_ _)); exact BK225.out)) : gb225 ≠ gb227)); have n7_ := Aside0.mk ((by rw [hg]; exact Nat.ne_of_gt (blk_lt (g := gb225) (o := .cells #[.int .i64 a0_0, .int .i64 a0_1] 37 (0, 0)) (by (with_reducible repeat (first | refine blk_drewN ?_ _ | refine blk_drew ?_ | refine blk_alloc ?_ _)); exact BK225.out)) : gb227 ≠ gb225)); have n8_ := Aside0.mk ((by rw [hg]; exact Nat.ne_of_lt (blk_lt (g := gb226) (o := .cells #[.int .i64 a1_0, .int .i64 a1_1] 37 (0, 0)) (by (with_reducible repeat (first | refine blk_drewN ?_ _ | refine blk_drew ?_ | refine blk_alloc ?_ _)); exact BK226.out)) : gb226 ≠ gb227)); have n9_ := Aside0.mk ((by rw [hg]; exact Nat.ne_of_gt (blk_lt (g := gb226) (o := .cells #[.int .i64 a1_0, .int .i64 a1_1] 37 (0, 0)) (by (with_reducible repeat (first | refine blk_drewN ?_ _ | refine blk_drew ?_ | refine blk_alloc ?_ _)); exact BK226.out)) : gb227 ≠ gb226)); clear BK225; clear BK226; clear HB; have BK225 := n0_; have BK226 := n1_; have HB := n2_; have BK227 := n3_; have GW227 := n4_; have GE227 := n5_; have NB225_227 := n6_; have NB227_225 := n7_; have NB226_227 := n8_; have NB227_226 := n9_; clear n0_ n1_ n2_ n3_ n4_ n5_ n6_ n7_ n8_ n9_; clear hb hbox hg) | ((with_reducible refine gate_dst (N := 7) rfl ?_); refine box_event ?hg (N := 7) ?hd (cs := #[.int .i64 a3_0, .int .i64 a3_1]) (t := 37) ?hr ?_; (case hd => rfl); (case hg => rfl); (case hr => first | (go_simp; done) | (go_simp; rfl)); intro gb228 hg wxca071 hbox hb; have n0_ := Aside0.mk (blk_below (g := gb225) (o := .cells #[.int .i64 a0_0, .int .i64 a0_1] 37 (0, 0)) (by (with_reducible repeat (first | refine blk_drewN ?_ _ | refine blk_drew ?_ | refine blk_alloc ?_ _)); exact BK225.out) hb); have n1_ := Aside0.mk (blk_below (g := gb226) (o := .cells #[.int .i64 a1_0, .int .i64 a1_1] 37 (0, 0)) (by (with_reducible repeat (first | refine blk_drewN ?_ _ | refine blk_drew ?_ | refine blk_alloc ?_ _)); exact BK226.out) hb); have n2_ := Aside0.mk (blk_below (g := gb227) (o := .cells #[.int .i64 a2_0, .int .i64 a2_1] 37 (0, 0)) (by (with_reducible repeat (first | refine blk_drewN ?_ _ | refine blk_drew ?_ | refine blk_alloc ?_ _)); exact BK227.out) hb); have n3_ := Aside0.mk (below_step (by repeat (first | (with_reducible first | exact HB.out | apply below_alloc | apply pw_below_drewN | apply below_drew1 | refine below_set ?_ GE225.out | refine below_set ?_ GE226.out | refine below_set ?_ GE227.out) | exact HB.out)) hb); have n4_ := Aside0.mk (hbox); have n5_ := Aside0.mk ((by rw [hg]; exact (below_size (by repeat (first | (with_reducible first | exact HB.out | apply below_alloc | apply pw_below_drewN | apply below_drew1 | refine below_set ?_ GE225.out | refine below_set ?_ GE226.out | refine below_set ?_ GE227.out) | exact HB.out))) : w.heap.size ≤ gb228)); have n6_ := Aside0.mk ((by rw [hg]; exact (below_size (by repeat (first | (with_reducible first | exact HB.out | apply below_alloc | apply pw_below_drewN | apply below_drew1 | refine below_set ?_ GE225.out | refine below_set ?_ GE226.out | refine below_set ?_ GE227.out) | exact HB.out))) : w.heap.size ≤ gb228)); have n7_ := Aside0.mk ((by rw [hg]; exact Nat.ne_of_lt (blk_lt (g := gb225) (o := .cells #[.int .i64 a0_0, .int .i64 a0_1] 37 (0, 0)) (by (with_reducible repeat (first | refine blk_drewN ?_ _ | refine blk_drew ?_ | refine blk_alloc ?_ _)); exact BK225.out)) : gb225 ≠ gb228)); have n8_ := Aside0.mk ((by rw [hg]; exact Nat.ne_of_gt (blk_lt (g := gb225) (o := .cells #[.int .i64 a0_0, .int .i64 a0_1] 37 (0, 0)) (by (with_reducible repeat (first | refine blk_drewN ?_ _ | refine blk_drew ?_ | refine blk_alloc ?_ _)); exact BK225.out)) : gb228 ≠ gb225)); have n9_ := Aside0.mk ((by rw [hg]; exact Nat.ne_of_lt (blk_lt (g := gb226) (o := .cells #[.int .i64 a1_0, .int .i64 a1_1] 37 (0, 0)) (by (with_reducible repeat (first | refine blk_drewN ?_ _ | refine blk_drew ?_ | refine blk_alloc ?_ _)); exact BK226.out)) : gb226 ≠ gb228)); have n10_ := Aside0.mk ((by rw [hg]; exact Nat.ne_of_gt (blk_lt (g := gb226) (o := .cells #[.int .i64 a1_0, .int .i64 a1_1] 37 (0, 0)) (by (with_reducible repeat (first | refine blk_drewN ?_ _ | refine blk_drew ?_ | refine blk_alloc ?_ _)); exact BK226.out)) : gb228 ≠ gb226)); have n11_ := Aside0.mk ((by rw [hg]; exact Nat.ne_of_lt (blk_lt (g := gb227) (o := .cells #[.int .i64 a2_0, .int .i64 a2_1] 37 (0, 0)) (by (with_reducible repeat (first | refine blk_drewN ?_ _ | refine blk_drew ?_ | refine blk_alloc ?_ _)); exact BK227.out)) : gb227 ≠ gb228)); have n12_ := Aside0.mk ((by rw [hg]; exact Nat.ne_of_gt (blk_lt (g := gb227) (o := .cells #[.int .i64 a2_0, .int .i64 a2_1] 37 (0, 0)) (by (with_reducible repeat (first | refine blk_drewN ?_ _ | refine blk_drew ?_ | refine blk_alloc ?_ _)); exact BK227.out)) : gb228 ≠ gb227)); clear BK225; clear BK226; clear BK227; clear HB; have BK225 := n0_; have BK226 := n1_; have BK227 := n2_; have HB := n3_; have BK228 := n4_; have GW228 := n5_; have GE228 := n6_; have NB225_228 := n7_; have NB228_225 := n8_; have NB226_228 := n9_; have NB228_226 := n10_; have NB227_228 := n11_; have NB228_227 := n12_; clear n0_ n1_ n2_ n3_ n4_ n5_ n6_ n7_ n8_ n9_ n10_ n11_ n12_; clear hb hbox hg) | ((with_reducible refine gate_callee (f := 39) rfl ?_); refine goesL_ (some 10) rfl rfl Try.func39 (by kernel_rfl) rfl #[] rfl (by (try simp only [List.map_toArray, List.map_cons, List.map_nil]); first | done | rfl | (simp only [List.length_drop, List.length_take]; rfl)) ?_; (with_reducible refine (skywaykeep1_polygonWorks.calls k  true _ A5.out).mono ?_); rintro e wx4a091 ⟨rfl, hb⟩; refine ⟨_, rfl, ?_⟩; have n0_ := Aside0.mk (blk_below (g := gb225) (o := .cells #[.int .i64 a0_0, .int .i64 a0_1] 37 (0, 0)) (by (with_reducible repeat (first | refine blk_drewN ?_ _ | refine blk_drew ?_ | refine blk_alloc ?_ _)); exact BK225.out) hb); have n1_ := Aside0.mk (blk_below (g := gb226) (o := .cells #[.int .i64 a1_0, .int .i64 a1_1] 37 (0, 0)) (by (with_reducible repeat (first | refine blk_drewN ?_ _ | refine blk_drew ?_ | refine blk_alloc ?_ _)); exact BK226.out) hb); have n2_ := Aside0.mk (blk_below (g := gb227) (o := .cells #[.int .i64 a2_0, .int .i64 a2_1] 37 (0, 0)) (by (with_reducible repeat (first | refine blk_drewN ?_ _ | refine blk_drew ?_ | refine blk_alloc ?_ _)); exact BK227.out) hb); have n3_ := Aside0.mk (blk_below (g := gb228) (o := .cells #[.int .i64 a3_0, .int .i64 a3_1] 37 (0, 0)) (by (with_reducible repeat (first | refine blk_drewN ?_ _ | refine blk_drew ?_ | refine blk_alloc ?_ _)); exact BK228.out) hb); have n4_ := Aside0.mk (below_step (by repeat (first | (with_reducible first | exact HB.out | apply below_alloc | apply pw_below_drewN | apply below_drew1 | refine below_set ?_ GE225.out | refine below_set ?_ GE226.out | refine below_set ?_ GE227.out | refine below_set ?_ GE228.out) | exact HB.out)) hb); clear BK225; clear BK226; clear BK227; clear BK228; clear HB; have BK225 := n0_; have BK226 := n1_; have BK227 := n2_; have BK228 := n3_; have HB := n4_; clear n0_ n1_ n2_ n3_ n4_; (try clear hb); (try clear hb2); (try clear hk); (try clear hi); have hnbx4a091 := NB225_226.out; have hncx4a091 := NB226_225.out; have hnbx4a092 := NB225_227.out; have hncx4a092 := NB227_225.out; have hnbx4a093 := NB225_228.out; have hncx4a093 := NB228_225.out; have hczx4a091 : wx4a091.cell? ⟨gb225, 0, none⟩ = some (.int .i64 a0_0) := (blk_cell BK225.out 0).trans rfl; have hczx4a092 : wx4a091.cell? ⟨gb225, 1, none⟩ = some (.int .i64 a0_1) := (blk_cell BK225.out 1).trans rfl; have hfzx4a091 := blk_frozen BK225.out 0; have hfzx4a092 := blk_frozen BK225.out 1; have hnbx4a094 := NB226_227.out; have hncx4a094 := NB227_226.out; have hnbx4a095 := NB226_228.out; have hncx4a095 := NB228_226.out; have hczx4a093 : wx4a091.cell? ⟨gb226, 0, none⟩ = some (.int .i64 a1_0) := (blk_cell BK226.out 0).trans rfl; have hczx4a094 : wx4a091.cell? ⟨gb226, 1, none⟩ = some (.int .i64 a1_1) := (blk_cell BK226.out 1).trans rfl; have hfzx4a093 := blk_frozen BK226.out 0; have hfzx4a094 := blk_frozen BK226.out 1; have hnbx4a096 := NB227_228.out; have hncx4a096 := NB228_227.out; have hczx4a095 : wx4a091.cell? ⟨gb227, 0, none⟩ = some (.int .i64 a2_0) := (blk_cell BK227.out 0).trans rfl; have hczx4a096 : wx4a091.cell? ⟨gb227, 1, none⟩ = some (.int .i64 a2_1) := (blk_cell BK227.out 1).trans rfl; have hfzx4a095 := blk_frozen BK227.out 0; have hfzx4a096 := blk_frozen BK227.out 1; have hczx4a097 : wx4a091.cell? ⟨gb228, 0, none⟩ = some (.int .i64 a3_0) := (blk_cell BK228.out 0).trans rfl; have hczx4a098 : wx4a091.cell? ⟨gb228, 1, none⟩ = some (.int .i64 a3_1) := (blk_cell BK228.out 1).trans rfl; have hfzx4a097 := blk_frozen BK228.out 0; have hfzx4a098 := blk_frozen BK228.out 1) | ((with_reducible refine gate_callee (f := 39) rfl ?_); refine goesL_ (some 10) rfl rfl Try.func39 (by kernel_rfl) rfl #[] rfl (by (try simp only [List.map_toArray, List.map_cons, List.map_nil]); first | done | rfl | (simp only [List.length_drop, List.length_take]; rfl)) ?_; (with_reducible refine (skywaykeep1_polygonWorks.calls k  false _ A5.out).mono ?_); rintro e wxb1a41 ⟨rfl, hb⟩; refine ⟨_, rfl, ?_⟩; have n0_ := Aside0.mk (blk_below (g := gb225) (o := .cells #[.int .i64 a0_0, .int .i64 a0_1] 37 (0, 0)) (by (with_reducible repeat (first | refine blk_drewN ?_ _ | refine blk_drew ?_ | refine blk_alloc ?_ _)); exact BK225.out) hb); have n1_ := Aside0.mk (blk_below (g := gb226) (o := .cells #[.int .i64 a1_0, .int .i64 a1_1] 37 (0, 0)) (by (with_reducible repeat (first | refine blk_drewN ?_ _ | refine blk_drew ?_ | refine blk_alloc ?_ _)); exact BK226.out) hb); have n2_ := Aside0.mk (blk_below (g := gb227) (o := .cells #[.int .i64 a2_0, .int .i64 a2_1] 37 (0, 0)) (by (with_reducible repeat (first | refine blk_drewN ?_ _ | refine blk_drew ?_ | refine blk_alloc ?_ _)); exact BK227.out) hb); have n3_ := Aside0.mk (blk_below (g := gb228) (o := .cells #[.int .i64 a3_0, .int .i64 a3_1] 37 (0, 0)) (by (with_reducible repeat (first | refine blk_drewN ?_ _ | refine blk_drew ?_ | refine blk_alloc ?_ _)); exact BK228.out) hb); have n4_ := Aside0.mk (below_step (by repeat (first | (with_reducible first | exact HB.out | apply below_alloc | apply pw_below_drewN | apply below_drew1 | refine below_set ?_ GE225.out | refine below_set ?_ GE226.out | refine below_set ?_ GE227.out | refine below_set ?_ GE228.out) | exact HB.out)) hb); clear BK225; clear BK226; clear BK227; clear BK228; clear HB; have BK225 := n0_; have BK226 := n1_; have BK227 := n2_; have BK228 := n3_; have HB := n4_; clear n0_ n1_ n2_ n3_ n4_; (try clear hb); (try clear hb2); (try clear hk); (try clear hi)) | ((with_reducible refine gate_dst (N := 16) rfl ?_); refine Kd.R_lit k37 _ 37 ?hg (N := 16) ?hd (xs := ([(⟨a0_0, a0_1⟩ : S37), (⟨a1_0, a1_1⟩ : S37), (⟨a2_0, a2_1⟩ : S37), (⟨a3_0, a3_1⟩ : S37)] : List (S37))) (inner := [.int .i64 a0_0, .int .i64 a0_1, .int .i64 a1_0, .int .i64 a1_1, .int .i64 a2_0, .int .i64 a2_1, .int .i64 a3_0, .int .i64 a3_1]) (ok := fun _ => True) (okp := fun _ => True) ?hr ?hp (fun _ hk => hk) trivial (Below.refl _ _) (Nat.le_refl _) (by simp) ?_; (case hd => rfl); (case hg => rfl); (case hr => first | (go_simp; done) | (go_simp; rfl)); (case hp => exact (Reps.c2 (show Kd.M k37 _ _ _ (⟨a0_0, a0_1⟩ : S37) [.int .i64 a0_0, .int .i64 a0_1] from (k37_mkM _ _ _ (⟨a0_0, a0_1⟩ : S37) )) (Reps.c2 (show Kd.M k37 _ _ _ (⟨a1_0, a1_1⟩ : S37) [.int .i64 a1_0, .int .i64 a1_1] from (k37_mkM _ _ _ (⟨a1_0, a1_1⟩ : S37) )) (Reps.c2 (show Kd.M k37 _ _ _ (⟨a2_0, a2_1⟩ : S37) [.int .i64 a2_0, .int .i64 a2_1] from (k37_mkM _ _ _ (⟨a2_0, a2_1⟩ : S37) )) (Reps.c2 (show Kd.M k37 _ _ _ (⟨a3_0, a3_1⟩ : S37) [.int .i64 a3_0, .int .i64 a3_1] from (k37_mkM _ _ _ (⟨a3_0, a3_1⟩ : S37) )) (Reps.none _ _)))))); intro v231 wx749b1 hox749b1 hb hg_ hnew_; clear hg_ hnew_; (first | rw [← Ny230.out] at hox749b1 | (simp only [Int.reduceToNat] at hox749b1; rw [← Ny230.out] at hox749b1)); have n0_ := Aside0.mk (Kd.R_lower (Kd.R_newB (Kd.R_newB (Kd.R_newB (Kd.R_newB hox749b1 (g := gb225) (o := .cells #[.int .i64 a0_0, .int .i64 a0_1] 37 (0, 0)) (by (with_reducible repeat (first | refine blk_drewN ?_ _ | refine blk_drew ?_ | refine blk_alloc ?_ _)); exact BK225.out)) (g := gb226) (o := .cells #[.int .i64 a1_0, .int .i64 a1_1] 37 (0, 0)) (by (with_reducible repeat (first | refine blk_drewN ?_ _ | refine blk_drew ?_ | refine blk_alloc ?_ _)); exact BK226.out)) (g := gb227) (o := .cells #[.int .i64 a2_0, .int .i64 a2_1] 37 (0, 0)) (by (with_reducible repeat (first | refine blk_drewN ?_ _ | refine blk_drew ?_ | refine blk_alloc ?_ _)); exact BK227.out)) (g := gb228) (o := .cells #[.int .i64 a3_0, .int .i64 a3_1] 37 (0, 0)) (by (with_reducible repeat (first | refine blk_drewN ?_ _ | refine blk_drew ?_ | refine blk_alloc ?_ _)); exact BK228.out)) (below_size (by repeat (first | (with_reducible first | exact HB.out | apply below_alloc | apply pw_below_drewN | apply below_drew1 | refine below_set ?_ GE225.out | refine below_set ?_ GE226.out | refine below_set ?_ GE227.out | refine below_set ?_ GE228.out) | exact HB.out)))); have n1_ := Aside0.mk (blk_below (g := gb225) (o := .cells #[.int .i64 a0_0, .int .i64 a0_1] 37 (0, 0)) (by (with_reducible repeat (first | refine blk_drewN ?_ _ | refine blk_drew ?_ | refine blk_alloc ?_ _)); exact BK225.out) hb); have n2_ := Aside0.mk (blk_below (g := gb226) (o := .cells #[.int .i64 a1_0, .int .i64 a1_1] 37 (0, 0)) (by (with_reducible repeat (first | refine blk_drewN ?_ _ | refine blk_drew ?_ | refine blk_alloc ?_ _)); exact BK226.out) hb); have n3_ := Aside0.mk (blk_below (g := gb227) (o := .cells #[.int .i64 a2_0, .int .i64 a2_1] 37 (0, 0)) (by (with_reducible repeat (first | refine blk_drewN ?_ _ | refine blk_drew ?_ | refine blk_alloc ?_ _)); exact BK227.out) hb); have n4_ := Aside0.mk (blk_below (g := gb228) (o := .cells #[.int .i64 a3_0, .int .i64 a3_1] 37 (0, 0)) (by (with_reducible repeat (first | refine blk_drewN ?_ _ | refine blk_drew ?_ | refine blk_alloc ?_ _)); exact BK228.out) hb); have n5_ := Aside0.mk (below_step (by repeat (first | (with_reducible first | exact HB.out | apply below_alloc | apply pw_below_drewN | apply below_drew1 | refine below_set ?_ GE225.out | refine below_set ?_ GE226.out | refine below_set ?_ GE227.out | refine below_set ?_ GE228.out) | exact HB.out)) hb); clear BK225; clear BK226; clear BK227; clear BK228; clear HB; have HO232 := n0_; have BK225 := n1_; have BK226 := n2_; have BK227 := n3_; have BK228 := n4_; have HB := n5_; clear n0_ n1_ n2_ n3_ n4_ n5_; clear hb hox749b1; obtain ⟨Aox749b1, cox749b1, eox749b1⟩ := Kd.R_slice HO232.out; subst eox749b1) | ((with_reducible refine gate_callee (f := 25) rfl ?_); refine goesL_ (some 17) rfl rfl Try.func25 (by kernel_rfl) rfl #[.slice Aox749b1 y230.length cox749b1] rfl (by (try simp only [List.map_toArray, List.map_cons, List.map_nil]); first | done | rfl | (simp only [List.length_drop, List.length_take]; rfl)) ?_; (with_reducible refine (skywaykeep1_near.calls k _ _ y230 true _ ?side1 ?side2 A7.out).mono ?_); (case side1 => repeat (first | exact (Kd.R_reads' HO232.out).2.2 | (with_reducible refine Kd.C_alloc ?_ _) | (with_reducible refine Kd.C_drewN ?_ _) | (with_reducible refine Kd.C_drew ?_))); (case side2 => exact (Kd.R_reads' HO232.out).2.1); rintro e wxc0951 ⟨rfl, hb⟩; refine ⟨_, rfl, ?_⟩; have n0_ := Aside0.mk (Kd.R_below (by (with_reducible repeat (first | apply Kd.R_alloc | apply Kd.R_drewN | apply Kd.R_drew)); exact HO232.out) hb); have n1_ := Aside0.mk (blk_below (g := gb225) (o := .cells #[.int .i64 a0_0, .int .i64 a0_1] 37 (0, 0)) (by (with_reducible repeat (first | refine blk_drewN ?_ _ | refine blk_drew ?_ | refine blk_alloc ?_ _)); exact BK225.out) hb); have n2_ := Aside0.mk (blk_below (g := gb226) (o := .cells #[.int .i64 a1_0, .int .i64 a1_1] 37 (0, 0)) (by (with_reducible repeat (first | refine blk_drewN ?_ _ | refine blk_drew ?_ | refine blk_alloc ?_ _)); exact BK226.out) hb); have n3_ := Aside0.mk (blk_below (g := gb227) (o := .cells #[.int .i64 a2_0, .int .i64 a2_1] 37 (0, 0)) (by (with_reducible repeat (first | refine blk_drewN ?_ _ | refine blk_drew ?_ | refine blk_alloc ?_ _)); exact BK227.out) hb); have n4_ := Aside0.mk (blk_below (g := gb228) (o := .cells #[.int .i64 a3_0, .int .i64 a3_1] 37 (0, 0)) (by (with_reducible repeat (first | refine blk_drewN ?_ _ | refine blk_drew ?_ | refine blk_alloc ?_ _)); exact BK228.out) hb); have n5_ := Aside0.mk (below_step (by repeat (first | (with_reducible first | exact HB.out | apply below_alloc | apply pw_below_drewN | apply below_drew1 | refine below_set ?_ GE225.out | refine below_set ?_ GE226.out | refine below_set ?_ GE227.out | refine below_set ?_ GE228.out) | exact HB.out)) hb); clear HO232; clear BK225; clear BK226; clear BK227; clear BK228; clear HB; have HO232 := n0_; have BK225 := n1_; have BK226 := n2_; have BK227 := n3_; have BK228 := n4_; have HB := n5_; clear n0_ n1_ n2_ n3_ n4_ n5_; (try clear hb); (try clear hb2); (try clear hk); (try clear hi); have hczxc0951 : wxc0951.cell? ⟨gb225, 0, none⟩ = some (.int .i64 a0_0) := (blk_cell BK225.out 0).trans rfl; have hczxc0952 : wxc0951.cell? ⟨gb225, 1, none⟩ = some (.int .i64 a0_1) := (blk_cell BK225.out 1).trans rfl; have hfzxc0951 := blk_frozen BK225.out 0; have hfzxc0952 := blk_frozen BK225.out 1; have hczxc0953 : wxc0951.cell? ⟨gb226, 0, none⟩ = some (.int .i64 a1_0) := (blk_cell BK226.out 0).trans rfl; have hczxc0954 : wxc0951.cell? ⟨gb226, 1, none⟩ = some (.int .i64 a1_1) := (blk_cell BK226.out 1).trans rfl; have hfzxc0953 := blk_frozen BK226.out 0; have hfzxc0954 := blk_frozen BK226.out 1; have hczxc0955 : wxc0951.cell? ⟨gb227, 0, none⟩ = some (.int .i64 a2_0) := (blk_cell BK227.out 0).trans rfl; have hczxc0956 : wxc0951.cell? ⟨gb227, 1, none⟩ = some (.int .i64 a2_1) := (blk_cell BK227.out 1).trans rfl; have hfzxc0955 := blk_frozen BK227.out 0; have hfzxc0956 := blk_frozen BK227.out 1; have hczxc0957 : wxc0951.cell? ⟨gb228, 0, none⟩ = some (.int .i64 a3_0) := (blk_cell BK228.out 0).trans rfl; have hczxc0958 : wxc0951.cell? ⟨gb228, 1, none⟩ = some (.int .i64 a3_1) := (blk_cell BK228.out 1).trans rfl; have hfzxc0957 := blk_frozen BK228.out 0; have hfzxc0958 := blk_frozen BK228.out 1) | ((with_reducible refine gate_callee (f := 25) rfl ?_); refine goesL_ (some 17) rfl rfl Try.func25 (by kernel_rfl) rfl #[.slice Aox749b1 y230.length cox749b1] rfl (by (try simp only [List.map_toArray, List.map_cons, List.map_nil]); first | done | rfl | (simp only [List.length_drop, List.length_take]; rfl)) ?_; (with_reducible refine (skywaykeep1_near.calls k _ _ y230 false _ ?side1 ?side2 A7.out).mono ?_); (case side1 => repeat (first | exact (Kd.R_reads' HO232.out).2.2 | (with_reducible refine Kd.C_alloc ?_ _) | (with_reducible refine Kd.C_drewN ?_ _) | (with_reducible refine Kd.C_drew ?_))); (case side2 => exact (Kd.R_reads' HO232.out).2.1); rintro e wx0a6a1 ⟨rfl, hb⟩; refine ⟨_, rfl, ?_⟩; have n0_ := Aside0.mk (Kd.R_below (by (with_reducible repeat (first | apply Kd.R_alloc | apply Kd.R_drewN | apply Kd.R_drew)); exact HO232.out) hb); have n1_ := Aside0.mk (blk_below (g := gb225) (o := .cells #[.int .i64 a0_0, .int .i64 a0_1] 37 (0, 0)) (by (with_reducible repeat (first | refine blk_drewN ?_ _ | refine blk_drew ?_ | refine blk_alloc ?_ _)); exact BK225.out) hb); have n2_ := Aside0.mk (blk_below (g := gb226) (o := .cells #[.int .i64 a1_0, .int .i64 a1_1] 37 (0, 0)) (by (with_reducible repeat (first | refine blk_drewN ?_ _ | refine blk_drew ?_ | refine blk_alloc ?_ _)); exact BK226.out) hb); have n3_ := Aside0.mk (blk_below (g := gb227) (o := .cells #[.int .i64 a2_0, .int .i64 a2_1] 37 (0, 0)) (by (with_reducible repeat (first | refine blk_drewN ?_ _ | refine blk_drew ?_ | refine blk_alloc ?_ _)); exact BK227.out) hb); have n4_ := Aside0.mk (blk_below (g := gb228) (o := .cells #[.int .i64 a3_0, .int .i64 a3_1] 37 (0, 0)) (by (with_reducible repeat (first | refine blk_drewN ?_ _ | refine blk_drew ?_ | refine blk_alloc ?_ _)); exact BK228.out) hb); have n5_ := Aside0.mk (below_step (by repeat (first | (with_reducible first | exact HB.out | apply below_alloc | apply pw_below_drewN | apply below_drew1 | refine below_set ?_ GE225.out | refine below_set ?_ GE226.out | refine below_set ?_ GE227.out | refine below_set ?_ GE228.out) | exact HB.out)) hb); clear HO232; clear BK225; clear BK226; clear BK227; clear BK228; clear HB; have HO232 := n0_; have BK225 := n1_; have BK226 := n2_; have BK227 := n3_; have BK228 := n4_; have HB := n5_; clear n0_ n1_ n2_ n3_ n4_ n5_; (try clear hb); (try clear hb2); (try clear hk); (try clear hi)) | ((with_reducible refine gate_callee (f := 40) rfl ?_); refine goesL_ (some 23) rfl rfl Try.func40 (by kernel_rfl) rfl #[.agg #[.int .i64 a0_0, .int .i64 a0_1], .agg #[.int .i64 a1_0, .int .i64 a1_1], .agg #[.int .i64 a2_0, .int .i64 a2_1], .agg #[.int .i64 a3_0, .int .i64 a3_1]] rfl (by (try simp only [List.map_toArray, List.map_cons, List.map_nil]); first | done | rfl | (simp only [List.length_drop, List.length_take]; rfl)) ?_; (with_reducible refine (polygon_Common.calls k a0_0 a0_1 a1_0 a1_1 a2_0 a2_1 a3_0 a3_1 t234 _ A9.out).mono ?_); rintro e wx90251 ⟨rfl, hb⟩; refine ⟨_, rfl, ?_⟩; have n0_ := Aside0.mk (Kd.R_below (by (with_reducible repeat (first | apply Kd.R_alloc | apply Kd.R_drewN | apply Kd.R_drew)); exact HO232.out) hb); have n1_ := Aside0.mk (blk_below (g := gb225) (o := .cells #[.int .i64 a0_0, .int .i64 a0_1] 37 (0, 0)) (by (with_reducible repeat (first | refine blk_drewN ?_ _ | refine blk_drew ?_ | refine blk_alloc ?_ _)); exact BK225.out) hb); have n2_ := Aside0.mk (blk_below (g := gb226) (o := .cells #[.int .i64 a1_0, .int .i64 a1_1] 37 (0, 0)) (by (with_reducible repeat (first | refine blk_drewN ?_ _ | refine blk_drew ?_ | refine blk_alloc ?_ _)); exact BK226.out) hb); have n3_ := Aside0.mk (blk_below (g := gb227) (o := .cells #[.int .i64 a2_0, .int .i64 a2_1] 37 (0, 0)) (by (with_reducible repeat (first | refine blk_drewN ?_ _ | refine blk_drew ?_ | refine blk_alloc ?_ _)); exact BK227.out) hb); have n4_ := Aside0.mk (blk_below (g := gb228) (o := .cells #[.int .i64 a3_0, .int .i64 a3_1] 37 (0, 0)) (by (with_reducible repeat (first | refine blk_drewN ?_ _ | refine blk_drew ?_ | refine blk_alloc ?_ _)); exact BK228.out) hb); have n5_ := Aside0.mk (below_step (by repeat (first | (with_reducible first | exact HB.out | apply below_alloc | apply pw_below_drewN | apply below_drew1 | refine below_set ?_ GE225.out | refine below_set ?_ GE226.out | refine below_set ?_ GE227.out | refine below_set ?_ GE228.out) | exact HB.out)) hb); clear HO232; clear BK225; clear BK226; clear BK227; clear BK228; clear HB; have HO232 := n0_; have BK225 := n1_; have BK226 := n2_; have BK227 := n3_; have BK228 := n4_; have HB := n5_; clear n0_ n1_ n2_ n3_ n4_ n5_; (try clear hb); (try clear hb2); (try clear hk); (try clear hi); have hczx90251 : wx90251.cell? ⟨gb227, 0, none⟩ = some (.int .i64 a2_0) := (blk_cell BK227.out 0).trans rfl; have hczx90252 : wx90251.cell? ⟨gb227, 1, none⟩ = some (.int .i64 a2_1) := (blk_cell BK227.out 1).trans rfl; have hfzx90251 := blk_frozen BK227.out 0; have hfzx90252 := blk_frozen BK227.out 1; have hczx90253 : wx90251.cell? ⟨gb228, 0, none⟩ = some (.int .i64 a3_0) := (blk_cell BK228.out 0).trans rfl; have hczx90254 : wx90251.cell? ⟨gb228, 1, none⟩ = some (.int .i64 a3_1) := (blk_cell BK228.out 1).trans rfl; have hfzx90253 := blk_frozen BK228.out 0; have hfzx90254 := blk_frozen BK228.out 1; have hczx90255 : wx90251.cell? ⟨gb225, 0, none⟩ = some (.int .i64 a0_0) := (blk_cell BK225.out 0).trans rfl; have hczx90256 : wx90251.cell? ⟨gb225, 1, none⟩ = some (.int .i64 a0_1) := (blk_cell BK225.out 1).trans rfl; have hfzx90255 := blk_frozen BK225.out 0; have hfzx90256 := blk_frozen BK225.out 1; have hczx90257 : wx90251.cell? ⟨gb226, 0, none⟩ = some (.int .i64 a1_0) := (blk_cell BK226.out 0).trans rfl; have hczx90258 : wx90251.cell? ⟨gb226, 1, none⟩ = some (.int .i64 a1_1) := (blk_cell BK226.out 1).trans rfl; have hfzx90257 := blk_frozen BK226.out 0; have hfzx90258 := blk_frozen BK226.out 1) | ((with_reducible refine gate_callee (f := 40) rfl ?_); refine goesL_ (some 28) rfl rfl Try.func40 (by kernel_rfl) rfl #[.agg #[.int .i64 a2_0, .int .i64 a2_1], .agg #[.int .i64 a3_0, .int .i64 a3_1], .agg #[.int .i64 a0_0, .int .i64 a0_1], .agg #[.int .i64 a1_0, .int .i64 a1_1]] rfl (by (try simp only [List.map_toArray, List.map_cons, List.map_nil]); first | done | rfl | (simp only [List.length_drop, List.length_take]; rfl)) ?_; (with_reducible refine (polygon_Common.calls k a2_0 a2_1 a3_0 a3_1 a0_0 a0_1 a1_0 a1_1 t235 _ A10.out).mono ?_); rintro e wxd1ee1 ⟨rfl, hb⟩; refine ⟨_, rfl, ?_⟩; have n0_ := Aside0.mk (Kd.R_below (by (with_reducible repeat (first | apply Kd.R_alloc | apply Kd.R_drewN | apply Kd.R_drew)); exact HO232.out) hb); have n1_ := Aside0.mk (blk_below (g := gb225) (o := .cells #[.int .i64 a0_0, .int .i64 a0_1] 37 (0, 0)) (by (with_reducible repeat (first | refine blk_drewN ?_ _ | refine blk_drew ?_ | refine blk_alloc ?_ _)); exact BK225.out) hb); have n2_ := Aside0.mk (blk_below (g := gb226) (o := .cells #[.int .i64 a1_0, .int .i64 a1_1] 37 (0, 0)) (by (with_reducible repeat (first | refine blk_drewN ?_ _ | refine blk_drew ?_ | refine blk_alloc ?_ _)); exact BK226.out) hb); have n3_ := Aside0.mk (blk_below (g := gb227) (o := .cells #[.int .i64 a2_0, .int .i64 a2_1] 37 (0, 0)) (by (with_reducible repeat (first | refine blk_drewN ?_ _ | refine blk_drew ?_ | refine blk_alloc ?_ _)); exact BK227.out) hb); have n4_ := Aside0.mk (blk_below (g := gb228) (o := .cells #[.int .i64 a3_0, .int .i64 a3_1] 37 (0, 0)) (by (with_reducible repeat (first | refine blk_drewN ?_ _ | refine blk_drew ?_ | refine blk_alloc ?_ _)); exact BK228.out) hb); have n5_ := Aside0.mk (below_step (by repeat (first | (with_reducible first | exact HB.out | apply below_alloc | apply pw_below_drewN | apply below_drew1 | refine below_set ?_ GE225.out | refine below_set ?_ GE226.out | refine below_set ?_ GE227.out | refine below_set ?_ GE228.out) | exact HB.out)) hb); clear HO232; clear BK225; clear BK226; clear BK227; clear BK228; clear HB; have HO232 := n0_; have BK225 := n1_; have BK226 := n2_; have BK227 := n3_; have BK228 := n4_; have HB := n5_; clear n0_ n1_ n2_ n3_ n4_ n5_; (try clear hb); (try clear hb2); (try clear hk); (try clear hi); have hczxd1ee1 : wxd1ee1.cell? ⟨gb226, 0, none⟩ = some (.int .i64 a1_0) := (blk_cell BK226.out 0).trans rfl; have hczxd1ee2 : wxd1ee1.cell? ⟨gb226, 1, none⟩ = some (.int .i64 a1_1) := (blk_cell BK226.out 1).trans rfl; have hfzxd1ee1 := blk_frozen BK226.out 0; have hfzxd1ee2 := blk_frozen BK226.out 1; have hczxd1ee3 : wxd1ee1.cell? ⟨gb225, 0, none⟩ = some (.int .i64 a0_0) := (blk_cell BK225.out 0).trans rfl; have hczxd1ee4 : wxd1ee1.cell? ⟨gb225, 1, none⟩ = some (.int .i64 a0_1) := (blk_cell BK225.out 1).trans rfl; have hfzxd1ee3 := blk_frozen BK225.out 0; have hfzxd1ee4 := blk_frozen BK225.out 1; have hczxd1ee5 : wxd1ee1.cell? ⟨gb228, 0, none⟩ = some (.int .i64 a3_0) := (blk_cell BK228.out 0).trans rfl; have hczxd1ee6 : wxd1ee1.cell? ⟨gb228, 1, none⟩ = some (.int .i64 a3_1) := (blk_cell BK228.out 1).trans rfl; have hfzxd1ee5 := blk_frozen BK228.out 0; have hfzxd1ee6 := blk_frozen BK228.out 1; have hczxd1ee7 : wxd1ee1.cell? ⟨gb227, 0, none⟩ = some (.int .i64 a2_0) := (blk_cell BK227.out 0).trans rfl; have hczxd1ee8 : wxd1ee1.cell? ⟨gb227, 1, none⟩ = some (.int .i64 a2_1) := (blk_cell BK227.out 1).trans rfl; have hfzxd1ee7 := blk_frozen BK227.out 0; have hfzxd1ee8 := blk_frozen BK227.out 1) | ((with_reducible refine gate_callee (f := 40) rfl ?_); refine goesL_ (some 28) rfl rfl Try.func40 (by kernel_rfl) rfl #[.agg #[.int .i64 a2_0, .int .i64 a2_1], .agg #[.int .i64 a3_0, .int .i64 a3_1], .agg #[.int .i64 a0_0, .int .i64 a0_1], .agg #[.int .i64 a1_0, .int .i64 a1_1]] rfl (by (try simp only [List.map_toArray, List.map_cons, List.map_nil]); first | done | rfl | (simp only [List.length_drop, List.length_take]; rfl)) ?_; (with_reducible refine (polygon_Common.calls k a2_0 a2_1 a3_0 a3_1 a0_0 a0_1 a1_0 a1_1 t235 _ A10.out).mono ?_); rintro e wx9c4f1 ⟨rfl, hb⟩; refine ⟨_, rfl, ?_⟩; have n0_ := Aside0.mk (Kd.R_below (by (with_reducible repeat (first | apply Kd.R_alloc | apply Kd.R_drewN | apply Kd.R_drew)); exact HO232.out) hb); have n1_ := Aside0.mk (blk_below (g := gb225) (o := .cells #[.int .i64 a0_0, .int .i64 a0_1] 37 (0, 0)) (by (with_reducible repeat (first | refine blk_drewN ?_ _ | refine blk_drew ?_ | refine blk_alloc ?_ _)); exact BK225.out) hb); have n2_ := Aside0.mk (blk_below (g := gb226) (o := .cells #[.int .i64 a1_0, .int .i64 a1_1] 37 (0, 0)) (by (with_reducible repeat (first | refine blk_drewN ?_ _ | refine blk_drew ?_ | refine blk_alloc ?_ _)); exact BK226.out) hb); have n3_ := Aside0.mk (blk_below (g := gb227) (o := .cells #[.int .i64 a2_0, .int .i64 a2_1] 37 (0, 0)) (by (with_reducible repeat (first | refine blk_drewN ?_ _ | refine blk_drew ?_ | refine blk_alloc ?_ _)); exact BK227.out) hb); have n4_ := Aside0.mk (blk_below (g := gb228) (o := .cells #[.int .i64 a3_0, .int .i64 a3_1] 37 (0, 0)) (by (with_reducible repeat (first | refine blk_drewN ?_ _ | refine blk_drew ?_ | refine blk_alloc ?_ _)); exact BK228.out) hb); have n5_ := Aside0.mk (below_step (by repeat (first | (with_reducible first | exact HB.out | apply below_alloc | apply pw_below_drewN | apply below_drew1 | refine below_set ?_ GE225.out | refine below_set ?_ GE226.out | refine below_set ?_ GE227.out | refine below_set ?_ GE228.out) | exact HB.out)) hb); clear HO232; clear BK225; clear BK226; clear BK227; clear BK228; clear HB; have HO232 := n0_; have BK225 := n1_; have BK226 := n2_; have BK227 := n3_; have BK228 := n4_; have HB := n5_; clear n0_ n1_ n2_ n3_ n4_ n5_; (try clear hb); (try clear hb2); (try clear hk); (try clear hi)) | (go_at_call 40; (with_reducible refine (polygon_Common.calls k a0_0 a0_1 a1_0 a1_1 a0_0 a0_1 a2_0 a2_1 t237 _ A14.out).mono ?_); rintro e wx6c271 ⟨rfl, hb⟩; have n0_ := Aside0.mk (Kd.R_below (by (with_reducible repeat (first | apply Kd.R_alloc | apply Kd.R_drewN | apply Kd.R_drew)); exact HO232.out) hb); have n1_ := Aside0.mk (blk_below (g := gb225) (o := .cells #[.int .i64 a0_0, .int .i64 a0_1] 37 (0, 0)) (by (with_reducible repeat (first | refine blk_drewN ?_ _ | refine blk_drew ?_ | refine blk_alloc ?_ _)); exact BK225.out) hb); have n2_ := Aside0.mk (blk_below (g := gb226) (o := .cells #[.int .i64 a1_0, .int .i64 a1_1] 37 (0, 0)) (by (with_reducible repeat (first | refine blk_drewN ?_ _ | refine blk_drew ?_ | refine blk_alloc ?_ _)); exact BK226.out) hb); have n3_ := Aside0.mk (blk_below (g := gb227) (o := .cells #[.int .i64 a2_0, .int .i64 a2_1] 37 (0, 0)) (by (with_reducible repeat (first | refine blk_drewN ?_ _ | refine blk_drew ?_ | refine blk_alloc ?_ _)); exact BK227.out) hb); have n4_ := Aside0.mk (blk_below (g := gb228) (o := .cells #[.int .i64 a3_0, .int .i64 a3_1] 37 (0, 0)) (by (with_reducible repeat (first | refine blk_drewN ?_ _ | refine blk_drew ?_ | refine blk_alloc ?_ _)); exact BK228.out) hb); have n5_ := Aside0.mk (below_step (by repeat (first | (with_reducible first | exact HB.out | apply below_alloc | apply pw_below_drewN | apply below_drew1 | refine below_set ?_ GE225.out | refine below_set ?_ GE226.out | refine below_set ?_ GE227.out | refine below_set ?_ GE228.out) | exact HB.out)) hb); clear HO232; clear BK225; clear BK226; clear BK227; clear BK228; clear HB; have HO232 := n0_; have BK225 := n1_; have BK226 := n2_; have BK227 := n3_; have BK228 := n4_; have HB := n5_; clear n0_ n1_ n2_ n3_ n4_ n5_; (try clear hb); (try clear hb2); (try clear hk); (try clear hi)) | (go_at_call 40; (with_reducible refine (polygon_Common.calls k a1_0 a1_1 a0_0 a0_1 a3_0 a3_1 a2_0 a2_1 t236 _ A12.out).mono ?_); rintro e wx4c941 ⟨rfl, hb⟩; have n0_ := Aside0.mk (Kd.R_below (by (with_reducible repeat (first | apply Kd.R_alloc | apply Kd.R_drewN | apply Kd.R_drew)); exact HO232.out) hb); have n1_ := Aside0.mk (blk_below (g := gb225) (o := .cells #[.int .i64 a0_0, .int .i64 a0_1] 37 (0, 0)) (by (with_reducible repeat (first | refine blk_drewN ?_ _ | refine blk_drew ?_ | refine blk_alloc ?_ _)); exact BK225.out) hb); have n2_ := Aside0.mk (blk_below (g := gb226) (o := .cells #[.int .i64 a1_0, .int .i64 a1_1] 37 (0, 0)) (by (with_reducible repeat (first | refine blk_drewN ?_ _ | refine blk_drew ?_ | refine blk_alloc ?_ _)); exact BK226.out) hb); have n3_ := Aside0.mk (blk_below (g := gb227) (o := .cells #[.int .i64 a2_0, .int .i64 a2_1] 37 (0, 0)) (by (with_reducible repeat (first | refine blk_drewN ?_ _ | refine blk_drew ?_ | refine blk_alloc ?_ _)); exact BK227.out) hb); have n4_ := Aside0.mk (blk_below (g := gb228) (o := .cells #[.int .i64 a3_0, .int .i64 a3_1] 37 (0, 0)) (by (with_reducible repeat (first | refine blk_drewN ?_ _ | refine blk_drew ?_ | refine blk_alloc ?_ _)); exact BK228.out) hb); have n5_ := Aside0.mk (below_step (by repeat (first | (with_reducible first | exact HB.out | apply below_alloc | apply pw_below_drewN | apply below_drew1 | refine below_set ?_ GE225.out | refine below_set ?_ GE226.out | refine below_set ?_ GE227.out | refine below_set ?_ GE228.out) | exact HB.out)) hb); clear HO232; clear BK225; clear BK226; clear BK227; clear BK228; clear HB; have HO232 := n0_; have BK225 := n1_; have BK226 := n2_; have BK227 := n3_; have BK228 := n4_; have HB := n5_; clear n0_ n1_ n2_ n3_ n4_ n5_; (try clear hb); (try clear hb2); (try clear hk); (try clear hi); have hczyeb3400 : wx4c941.cell? ⟨gb225, 0, none⟩ = some (.int .i64 a0_0) := (blk_cell BK225.out 0).trans rfl; have hczyeb3401 : wx4c941.cell? ⟨gb225, 1, none⟩ = some (.int .i64 a0_1) := (blk_cell BK225.out 1).trans rfl; have hfzyeb3402 := blk_frozen BK225.out 0; have hfzyeb3403 := blk_frozen BK225.out 1; have hczyeb3404 : wx4c941.cell? ⟨gb226, 0, none⟩ = some (.int .i64 a1_0) := (blk_cell BK226.out 0).trans rfl; have hczyeb3405 : wx4c941.cell? ⟨gb226, 1, none⟩ = some (.int .i64 a1_1) := (blk_cell BK226.out 1).trans rfl; have hfzyeb3406 := blk_frozen BK226.out 0; have hfzyeb3407 := blk_frozen BK226.out 1; have hczyeb3408 : wx4c941.cell? ⟨gb227, 0, none⟩ = some (.int .i64 a2_0) := (blk_cell BK227.out 0).trans rfl; have hczyeb3409 : wx4c941.cell? ⟨gb227, 1, none⟩ = some (.int .i64 a2_1) := (blk_cell BK227.out 1).trans rfl; have hfzyeb34010 := blk_frozen BK227.out 0; have hfzyeb34011 := blk_frozen BK227.out 1))
  go_ret
  exact ⟨by first | rfl | (simp [errW_none, errW_some] <;> rfl) | (simp [*, errW_none, errW_some] <;> rfl), by repeat (first | (with_reducible first | exact HB.out | apply below_alloc | apply pw_below_drewN | apply below_drew1 | refine below_set ?_ GE225.out | refine below_set ?_ GE226.out | refine below_set ?_ GE227.out | refine below_set ?_ GE228.out) | exact HB.out)⟩

/-- What is told of a value of struct type 37 that came in. -/
def good37 (x : S37) : Prop := ((Lit.int .i64 x.f0).wf = true) ∧ (Lit.int .i64 x.f1).wf = true
/-- THE ONE PURE STATEMENT of skywaykeep1_PolygonCommon. -/
def skywaykeep1_PolygonCommon.Pure : Prop := ∀ (a0_0 : Int) (a0_1 : Int) (a1_0 : Int) (a1_1 : Int) (a2_0 : Int) (a2_1 : Int) (a3_0 : Int) (a3_1 : Int), ((Lit.int .i64 a0_0).wf = true) → ((Lit.int .i64 a0_1).wf = true) → ((Lit.int .i64 a1_0).wf = true) → ((Lit.int .i64 a1_1).wf = true) → ((Lit.int .i64 a2_0).wf = true) → ((Lit.int .i64 a2_1).wf = true) → ((Lit.int .i64 a3_0).wf = true) → ((Lit.int .i64 a3_1).wf = true) → ∃ k, skywaykeep1_PolygonCommon.f k a0_0 a0_1 a1_0 a1_1 a2_0 a2_1 a3_0 a3_1 = some true

end Go.Proofs.Ytaahnfajcbkknaa.PPolygonCommon
